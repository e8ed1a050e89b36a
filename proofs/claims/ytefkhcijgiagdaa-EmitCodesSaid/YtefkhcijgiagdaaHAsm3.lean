import Derived.Test.YtefkhcijgiagdaaProg
import Derived.Below
import Derived.Deep.Draws
import Derived.Deep.AppendLies
import Derived.Maps.AppendAt
import Derived.OwnWalk
import Derived.Laws.BytesArg
import Derived.Laws.MakeOwn
import Derived.Laws.OwnMore
import Derived.Deep.OwnRows
import Derived.Tactics
import Derived.Lib.ConvBytes
import Derived.Laws.Slices
import Derived.WalkKit
import Derived.KernelRfl
import Derived.RowKit3
import Derived.Deep.LoopGhost
import Derived.Deep.QuietTactic
import Derived.BigQuiet
import Derived.WideLaws
import Derived.Deep.DeepCutAuto
import Derived.Deep.CutBlock
import Derived.Deep.RegionHeld3
import Derived.Laws.Rows
import Derived.Lib.AppendStr
import Derived.ArgAppend
import Derived.Laws.IdiomCopy
import Derived.OrdersHeld
import Derived.Laws.BitsLemmas
import Derived.RowKit
import Derived.Test.YtefkhcijgiagdaaWWords
import Derived.Test.YtefkhcijgiagdaaWLast
import Derived.Test.YtefkhcijgiagdaaWTab
import Derived.Test.YtefkhcijgiagdaaWFour
import Derived.Test.YtefkhcijgiagdaaWQPut
import Derived.Test.YtefkhcijgiagdaaWApart
import Derived.Test.YtefkhcijgiagdaaWArr
import Derived.Test.YtefkhcijgiagdaaWZeros
import Derived.Test.YtefkhcijgiagdaaWFoot
import Derived.Test.YtefkhcijgiagdaaWKept
import Derived.Test.YtefkhcijgiagdaaWShare
import Derived.Test.YtefkhcijgiagdaaWN
import Derived.Test.YtefkhcijgiagdaaWFootNe
import Derived.Test.YtefkhcijgiagdaaWAt
import Derived.Test.YtefkhcijgiagdaaWEqStruct
import Derived.Test.YtefkhcijgiagdaaWRepsOne
import Derived.Test.YtefkhcijgiagdaaWInv
import Derived.Test.YtefkhcijgiagdaaWInvWords
import Derived.Test.YtefkhcijgiagdaaWGuard
import Derived.Test.YtefkhcijgiagdaaWNEv
import Derived.Test.YtefkhcijgiagdaaWMore
import Derived.Laws.Tables
import Derived.Laws.CopyOwn
import Derived.Deep.WholeRow
import Derived.ChangeKeysEq
import Derived.Shelf.Abstract
import Derived.Deep.RegionLaw
import Derived.Maps.OwnSet
import Derived.Test.YtefkhcijgiagdaaE1x0
import Derived.Test.YtefkhcijgiagdaaI1x0
import Derived.Test.YtefkhcijgiagdaaHAsm2
import Derived.Test.YtefkhcijgiagdaaHAsm
namespace Go.Proofs.Ytefkhcijgiagdaa.HAsm
open Go.RowKit Go.Proofs.YtefkhcijgiagdaaW.PrintWords Go.Proofs.YtefkhcijgiagdaaW.PrintLast Go.Proofs.YtefkhcijgiagdaaW.PrintMore Go.Proofs.Ytefkhcijgiagdaa.I1 Go.Proofs.Ytefkhcijgiagdaa.E1
set_option linter.unusedVariables false
set_option linter.unusedSimpArgs false
set_option maxRecDepth 100000
theorem St.grownMap {w w1 : World} {B Wb Mb : Nat} {A : Option Addr} {cap : Nat} {xs : List S28} {L L1 : Int → Option Int} {n n1 : Nat} {bad : Bool} (h : St w B Wb Mb A cap xs L n bad)
    (hm : MapIs w1 Mb n1 L1) (hg : w.grownBy w1 (some Mb)) : Fr B w w1 ∧ St w1 B Wb Mb A cap xs L1 n1 bad := by
  have hmap : ∀ (t : Nat) (cs : Array Value), w.heap[Mb]? ≠ some (Obj.cells cs t (0, 0)) := by
    intro t cs hc
    obtain ⟨D, ⟨es, clock, hb, _⟩, _⟩ := h.hM
    rw [hc] at hb; cases hb
  refine ⟨(Fr.refl B w).grown hg h.base (fun k hk => ?_), ?_, ?_, hm, h.bW, h.bM⟩
  · cases hk; exact ⟨h.bM, fun t cs _ => hmap t cs⟩
  · exact (hg.block Wb h.lt (fun e => h.ne (by injection e with e; exact e.symm))).trans h.hW
  · refine Kd.R_mono (Kd.R_grown (Kd.R_bound h.hR) hg (fun k hk => ?_)) (fun k hk => trivial)
    obtain ⟨_, _, _, q, hq, cells, hc⟩ := hk
    intro e; injection e with e; subst e
    exact hmap q cells hc
set_option maxHeartbeats 1000000 in
theorem step6 {w : World} {B Wb Mb : Nat} {s : WS} (h : StW w B Wb Mb s) (o : S40) (hl : s.xs.length ≤ 999990) (hn : s.n < 1000000) (ho : o.f0 = 6) (hT : (Lit.int .i64 o.f2).wf = true) : StepC o s B Wb Mb w := by
  obtain ⟨a, b, c, d⟩ := o
  have hu40 := Try.underlying40
  have hu28 := Try.underlying28
  have hu107 := Try.underlying107
  obtain ⟨A, cap, h⟩ := h
  have hlt := h.lt
  have c0 : w.cell? ⟨Wb, 0, none⟩ = some (.slice A s.xs.length cap) := blk_cell h.hW 0
  have c1 : w.cell? ⟨Wb, 1, none⟩ = some (.map (some Mb)) := blk_cell h.hW 1
  subst ho
  have h1 := (h.alloc (.cells #[.int .i64 6, .int .u32 b, .int .i64 c, .int .i64 d] 40)).below (Below.refl _ _).drew
  obtain ⟨w1, hrun, hm1, hg1⟩ := h1.hM.store hn c (s.xs.length : Int) hT (WalkArith.wf_i64 (n := (s.xs.length : Int)) (by omega))
  have hF := St.grownMap h1 hm1 hg1
  have hbx := ((Fr.refl B w).alloc h.base (.cells #[.int .i64 6, .int .u32 b, .int .i64 c, .int .i64 d] 40)).drew.trans hF.1
  have hFF := Aside0.mk (show Fr B w w1 ∧ StW w1 B Wb Mb ⟨s.xs, fun x => if x = c then some (s.xs.length : Int) else s.L x, s.n + 1, s.bad⟩ from ⟨hbx, A, cap, hF.2⟩)
  clear hF hbx hm1 hg1 h1 h
  go_enter Try.func90, Try.ntmps90
  go_wp2
  go_region
  go_wp2
  go_end0
  exact ⟨rfl, hFF.out.1, hFF.out.2⟩
theorem step_c {w : World} {B Wb Mb : Nat} {s : WS} (h : StW w B Wb Mb s) (o : S40) (hl : s.xs.length ≤ 999990) (hn : s.n < 1000000) (hT : (Lit.int .i64 o.f2).wf = true) (hF : (Lit.int .i64 o.f3).wf = true) : StepC o s B Wb Mb w := by
  by_cases h1 : o.f0 = 1 ∨ o.f0 = 2 ∨ o.f0 = 8
  · exact step1 h o hl h1
  · by_cases h2 : o.f0 = 3 ∨ o.f0 = 4 ∨ o.f0 = 5
    · exact step345 h o hl h2 hT hF
    · by_cases h6 : o.f0 = 6
      · exact step6 h o hl hn h6 hT
      · by_cases h7 : o.f0 = 7
        · exact step7 h o hl h7 hT
        · exact stepElse h o hl (by omega)
end Go.Proofs.Ytefkhcijgiagdaa.HAsm
