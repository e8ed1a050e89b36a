import Derived.Test.YtefkhcijgiagdaaProg
import Derived.Below
import Derived.Deep.Draws
import Derived.Deep.AppendLies
import Derived.Maps.AppendAt
import Derived.OwnWalk
import Derived.Laws.BytesArg
import Derived.Laws.MakeOwn
import Derived.Laws.OwnMore
import Derived.Deep.OwnRows
import Derived.Tactics
import Derived.Lib.ConvBytes
import Derived.Laws.Slices
import Derived.WalkKit
import Derived.KernelRfl
import Derived.RowKit3
import Derived.Deep.LoopGhost
import Derived.Deep.QuietTactic
import Derived.BigQuiet
import Derived.WideLaws
import Derived.Deep.DeepCutAuto
import Derived.Deep.CutBlock
import Derived.Deep.RegionHeld3
import Derived.Laws.Rows
import Derived.Lib.AppendStr
import Derived.ArgAppend
import Derived.Laws.IdiomCopy
import Derived.OrdersHeld
import Derived.Laws.BitsLemmas
import Derived.RowKit
import Derived.Test.YtefkhcijgiagdaaWWords
import Derived.Test.YtefkhcijgiagdaaWLast
import Derived.Test.YtefkhcijgiagdaaWTab
import Derived.Test.YtefkhcijgiagdaaWFour
import Derived.Test.YtefkhcijgiagdaaWQPut
import Derived.Test.YtefkhcijgiagdaaWApart
import Derived.Test.YtefkhcijgiagdaaWArr
import Derived.Test.YtefkhcijgiagdaaWZeros
import Derived.Test.YtefkhcijgiagdaaWFoot
import Derived.Test.YtefkhcijgiagdaaWKept
import Derived.Test.YtefkhcijgiagdaaWShare
import Derived.Test.YtefkhcijgiagdaaWN
import Derived.Test.YtefkhcijgiagdaaWFootNe
import Derived.Test.YtefkhcijgiagdaaWAt
import Derived.Test.YtefkhcijgiagdaaWEqStruct
import Derived.Test.YtefkhcijgiagdaaWRepsOne
import Derived.Test.YtefkhcijgiagdaaWInv
import Derived.Test.YtefkhcijgiagdaaWInvWords
import Derived.Test.YtefkhcijgiagdaaWGuard
import Derived.Test.YtefkhcijgiagdaaWNEv
import Derived.Test.YtefkhcijgiagdaaWMore
import Derived.Laws.Tables
import Derived.Laws.CopyOwn
import Derived.Deep.WholeRow
import Derived.ChangeKeysEq
import Derived.Shelf.Abstract
import Derived.Deep.RegionLaw
import Derived.Maps.OwnSet
import Derived.Test.YtefkhcijgiagdaaE1x0
import Derived.Test.YtefkhcijgiagdaaI1x0
import Derived.Test.YtefkhcijgiagdaaHAsm
namespace Go.Proofs.Ytefkhcijgiagdaa.HAsm
open Go.RowKit Go.Proofs.YtefkhcijgiagdaaW.PrintWords Go.Proofs.YtefkhcijgiagdaaW.PrintLast Go.Proofs.YtefkhcijgiagdaaW.PrintMore Go.Proofs.Ytefkhcijgiagdaa.I1 Go.Proofs.Ytefkhcijgiagdaa.E1
set_option linter.unusedVariables false
set_option linter.unusedSimpArgs false
set_option maxRecDepth 100000
def codeB (k : Int) : Int := if k = 3 then 21 else if k = 4 then 37 else 53
theorem code_c (k : Int) (w : World) : Calls Try.prog 126 #[.int .i64 k] w fun e w' => e = .returned (.int .i64 (codeB k)) ∧ Below w.heap.size w w' := by
  unfold codeB
  split
  · subst_vars
    go_enter Try.func126, Try.ntmps126
    go_wp2
    go_ret
    exact ⟨rfl, Below.refl _ _⟩
  · split
    · subst_vars
      go_enter Try.func126, Try.ntmps126
      go_wp2
      go_ret
      exact ⟨rfl, Below.refl _ _⟩
    · go_enter Try.func126, Try.ntmps126
      go_wp2
      go_ret
      exact ⟨rfl, Below.refl _ _⟩
/-- The writer, as it is told of. -/
structure WS where
  xs : List S28
  L : Int → Option Int
  n : Nat
  bad : Bool
def WS.put (s : WS) (x : S28) : WS := ⟨s.xs ++ [x], s.L, s.n, s.bad⟩
def WS.go (s : WS) (label : Int) : WS := ⟨s.xs ++ [goI s.xs s.L label], s.L, s.n, s.bad || !(s.L label).isSome⟩
def stepS (s : WS) (o : S40) : WS :=
  if o.f0 = 1 then s.put ⟨32, 0, 0, o.f1⟩
  else if o.f0 = 2 then s.put ⟨84, 0, 0, o.f1⟩
  else if o.f0 = 3 ∨ o.f0 = 4 ∨ o.f0 = 5 then ((s.go o.f3).go o.f2).put ⟨codeB o.f0, 0, 1, o.f1⟩
  else if o.f0 = 6 then ⟨s.xs, fun x => if x = o.f2 then some (s.xs.length : Int) else s.L x, s.n + 1, s.bad⟩
  else if o.f0 = 7 then s.go o.f2
  else if o.f0 = 8 then s.put ⟨6, 0, 0, o.f1⟩
  else ⟨s.xs, s.L, s.n, true⟩
def StW (w : World) (B Wb Mb : Nat) (s : WS) : Prop := ∃ A cap, St w B Wb Mb A cap s.xs s.L s.n s.bad
def StepPost (w : World) (B Wb Mb : Nat) (s : WS) (e : Ending) (w' : World) : Prop := e = .returned (.tuple #[]) ∧ Fr B w w' ∧ StW w' B Wb Mb s
theorem put_w {w : World} {B Wb Mb : Nat} {s : WS} (h : StW w B Wb Mb s) (a b c d : Int) (hl : s.xs.length ≤ 1000000) :
    Calls Try.prog 124 #[.pointer (some ⟨Wb, 0, none⟩), .agg #[.int .i64 a, .int .i64 b, .int .i64 c, .int .u32 d]] w (StepPost w B Wb Mb (s.put ⟨a, b, c, d⟩)) := by
  obtain ⟨A, cap, h⟩ := h
  refine (put_c h ⟨a, b, c, d⟩ hl).mono ?_
  rintro e w' ⟨rfl, hb, A', c', h'⟩
  exact ⟨rfl, hb, A', c', h'⟩
theorem goes_w {w : World} {B Wb Mb : Nat} {s : WS} (h : StW w B Wb Mb s) (label : Int) (hk : (Lit.int .i64 label).wf = true) (hl : s.xs.length ≤ 1000000) :
    Calls Try.prog 125 #[.pointer (some ⟨Wb, 0, none⟩), .int .i64 label] w fun e w' => e = .returned (.agg #[.int .i64 5, .int .i64 0, .int .i64 0, .int .u32 (goI s.xs s.L label).f3]) ∧ Fr B w w' ∧ StW w' B Wb Mb ⟨s.xs, s.L, s.n, s.bad || !(s.L label).isSome⟩ := by
  obtain ⟨A, cap, h⟩ := h
  refine (goes_c h label hk hl).mono ?_
  rintro e w' ⟨rfl, hb, h'⟩
  exact ⟨rfl, hb, A, cap, h'⟩
theorem StW.box {w : World} {B Wb Mb : Nat} {s : WS} (h : StW w B Wb Mb s) (o : Obj) : Fr B w (w.alloc o) ∧ StW (w.alloc o) B Wb Mb s := by
  obtain ⟨A, cap, h⟩ := h
  exact ⟨(Fr.refl B w).alloc h.base o, A, cap, h.alloc o⟩
theorem StW.drew {w : World} {B Wb Mb : Nat} {s : WS} (h : StW w B Wb Mb s) : StW w.drew B Wb Mb s := by
  obtain ⟨A, cap, h⟩ := h
  exact ⟨A, cap, h.below ⟨rfl, rfl, rfl, Nat.le_refl _, fun _ _ => rfl⟩⟩
theorem StW.below {w w' : World} {B Wb Mb : Nat} {s : WS} (h : StW w B Wb Mb s) (hb : Below w.heap.size w w') : StW w' B Wb Mb s := by
  obtain ⟨A, cap, h⟩ := h
  exact ⟨A, cap, h.below hb⟩
theorem StW.base {w : World} {B Wb Mb : Nat} {s : WS} (h : StW w B Wb Mb s) : B ≤ w.heap.size := by
  obtain ⟨A, cap, h⟩ := h
  exact h.base
def StepC (o : S40) (s : WS) (B Wb Mb : Nat) (w : World) : Prop :=
  Calls Try.prog 90 #[.pointer (some ⟨Wb, 0, none⟩), .agg #[.int .i64 o.f0, .int .u32 o.f1, .int .i64 o.f2, .int .i64 o.f3]] w (StepPost w B Wb Mb (stepS s o))
set_option maxHeartbeats 2000000 in
theorem step1 {w : World} {B Wb Mb : Nat} {s : WS} (h : StW w B Wb Mb s) (o : S40) (hl : s.xs.length ≤ 999990) (ho : o.f0 = 1 ∨ o.f0 = 2 ∨ o.f0 = 8) : StepC o s B Wb Mb w := by
  obtain ⟨a, b, c, d⟩ := o
  have hu40 := Try.underlying40
  have hu28 := Try.underlying28
  have hbox := h.box (.cells #[.int .i64 a, .int .u32 b, .int .i64 c, .int .i64 d] 40)
  clear h
  rcases ho with rfl | rfl | rfl
  · go_enter Try.func90, Try.ntmps90
    go_wp2_with (go_at_call 124; refine (put_w hbox.2 _ _ _ _ (by omega)).mono ?_; rintro e w1 ⟨rfl, hb1, hs1⟩)
    go_end0
    exact ⟨rfl, hbox.1.trans hb1, hs1⟩
  · go_enter Try.func90, Try.ntmps90
    go_wp2_with (go_at_call 124; refine (put_w hbox.2 _ _ _ _ (by omega)).mono ?_; rintro e w1 ⟨rfl, hb1, hs1⟩)
    go_end0
    exact ⟨rfl, hbox.1.trans hb1, hs1⟩
  · go_enter Try.func90, Try.ntmps90
    go_wp2_with (go_at_call 124; refine (put_w hbox.2 _ _ _ _ (by omega)).mono ?_; rintro e w1 ⟨rfl, hb1, hs1⟩)
    go_end0
    exact ⟨rfl, hbox.1.trans hb1, hs1⟩
set_option maxHeartbeats 2000000 in
theorem step7 {w : World} {B Wb Mb : Nat} {s : WS} (h : StW w B Wb Mb s) (o : S40) (hl : s.xs.length ≤ 999990) (ho : o.f0 = 7) (hT : (Lit.int .i64 o.f2).wf = true) : StepC o s B Wb Mb w := by
  obtain ⟨a, b, c, d⟩ := o
  have hu40 := Try.underlying40
  have hu28 := Try.underlying28
  have hbox := h.box (.cells #[.int .i64 a, .int .u32 b, .int .i64 c, .int .i64 d] 40)
  clear h
  subst ho
  go_enter Try.func90, Try.ntmps90
  go_wp2_with (first | (go_at_call 125; refine (goes_w hbox.2 c hT (by omega)).mono ?_; rintro e w1 ⟨rfl, hb1, hs1⟩) | (go_at_call 124; refine (put_w hs1 _ _ _ _ (by simp only; omega)).mono ?_; rintro e w2 ⟨rfl, hb2, hs2⟩))
  go_end0
  exact ⟨rfl, (hbox.1.trans hb1).trans hb2, hs2⟩
set_option maxHeartbeats 2000000 in
theorem stepElse {w : World} {B Wb Mb : Nat} {s : WS} (h : StW w B Wb Mb s) (o : S40) (hl : s.xs.length ≤ 999990) (ho : o.f0 ≤ 0 ∨ 9 ≤ o.f0) : StepC o s B Wb Mb w := by
  obtain ⟨a, b, c, d⟩ := o
  have hu40 := Try.underlying40
  have hu28 := Try.underlying28
  have hu107 := Try.underlying107
  obtain ⟨A, cap, h⟩ := h
  have hlt := h.lt
  have c2 : w.cell? ⟨Wb, 2, none⟩ = some (.bool s.bad) := blk_cell h.hW 2
  have f2 := blk_frozen h.hW 2
  have HF := Aside0.mk (h.setBad true)
  have e : stepS s ⟨a, b, c, d⟩ = ⟨s.xs, s.L, s.n, true⟩ := by
    simp only at ho
    unfold stepS
    simp only
    rw [if_neg (by omega), if_neg (by omega), if_neg (by omega), if_neg (by omega), if_neg (by omega), if_neg (by omega)]
  unfold StepC
  rw [e]
  clear e h
  simp only at ho ⊢
  have n1 : ¬ a = 1 := by omega
  have n2 : ¬ a = 2 := by omega
  have n3 : ¬ a = 3 := by omega
  have n4 : ¬ a = 4 := by omega
  have n5 : ¬ a = 5 := by omega
  have n6 : ¬ a = 6 := by omega
  have n7 : ¬ a = 7 := by omega
  have n8 : ¬ a = 8 := by omega
  go_enter Try.func90, Try.ntmps90
  go_wp2
  go_end0
  exact ⟨rfl, HF.out.1.alloc HF.out.2.base _, _, _, HF.out.2.alloc _⟩
set_option maxHeartbeats 1000000 in
theorem step345 {w : World} {B Wb Mb : Nat} {s : WS} (h : StW w B Wb Mb s) (o : S40) (hl : s.xs.length ≤ 999990) (ho : o.f0 = 3 ∨ o.f0 = 4 ∨ o.f0 = 5) (hT : (Lit.int .i64 o.f2).wf = true) (hF : (Lit.int .i64 o.f3).wf = true) : StepC o s B Wb Mb w := by
  obtain ⟨a, b, c, d⟩ := o
  have hu40 := Try.underlying40
  have hu28 := Try.underlying28
  have hbox := h.box (.cells #[.int .i64 a, .int .u32 b, .int .i64 c, .int .i64 d] 40)
  have hblk := heap_alloc_new w (.cells #[.int .i64 a, .int .u32 b, .int .i64 c, .int .i64 d] 40)
  clear h
  have hcode := code_c a
  rcases ho with rfl | rfl | rfl <;>
  · have tok1 : True := trivial
    have tok2 : True := trivial
    have tok3 : True := trivial
    have tok4 : True := trivial
    go_enter Try.func90, Try.ntmps90
    go_wp2_with (first | (go_at_call 125; have _t := tok1; refine (goes_w hbox.2 d hF (by omega)).mono ?_; rintro e w1 ⟨rfl, hb1, hs1⟩; clear tok1 _t) | (go_at_call 124; have _t := tok2; refine (put_w hs1 _ _ _ _ (by simp only; omega)).mono ?_; rintro e w2 ⟨rfl, hb2, hs2⟩; have hblk2 := hb2.keep _ _ _ (by decide) (by decide) (hb1.keep _ _ _ (by decide) (by decide) hblk); have k22 := blk_cell hblk2 2; clear tok2 _t) | (go_at_call 125; have _t := tok3; refine (goes_w hs2 c hT (by simp only [WS.put, List.length_append, List.length_cons, List.length_nil]; omega)).mono ?_; rintro e w3 ⟨rfl, hb3, hs3⟩; clear tok3 _t) | (go_at_call 124; have _t := tok4; refine (put_w hs3 _ _ _ _ (by simp only [WS.put, List.length_append, List.length_cons, List.length_nil]; omega)).mono ?_; rintro e w4 ⟨rfl, hb4, hs4⟩; have hblk4 := hb4.keep _ _ _ (by decide) (by decide) (hb3.keep _ _ _ (by decide) (by decide) hblk2); have k40 := blk_cell hblk4 0; have k41 := blk_cell hblk4 1; clear tok4 _t))
    have tok5 : True := trivial
    have tok6 : True := trivial
    go_region_with (first | (go_at_call 126; have _t := tok5; refine (code_c _ _).mono ?_; rintro e w5 ⟨rfl, hb5⟩; have hblk5 := ((Fr.refl B w4).drew.of_below hs4.drew.base hb5).keep _ _ _ (by decide) (by decide) hblk4; have k51 := blk_cell hblk5 1; clear tok5 _t) | (go_at_call 124; have _t := tok6; refine (put_w (hs4.drew.below hb5) _ _ _ _ (by simp only [WS.put, List.length_append, List.length_cons, List.length_nil]; omega)).mono ?_; rintro e w6 ⟨rfl, hb6, hs6⟩; clear tok6 _t))
    all_goals
      go_end0
      exact ⟨rfl, ((((((hbox.1.trans hb1).trans hb2).trans hb3).trans hb4).drew).of_below hs4.drew.base hb5).trans hb6, hs6⟩
end Go.Proofs.Ytefkhcijgiagdaa.HAsm
