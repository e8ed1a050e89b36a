import Derived.Test.YtefkhcijgiagdaaProg
import Derived.Below
import Derived.Deep.Draws
import Derived.Deep.AppendLies
import Derived.Maps.AppendAt
import Derived.OwnWalk
import Derived.Laws.BytesArg
import Derived.Laws.MakeOwn
import Derived.Laws.OwnMore
import Derived.Deep.OwnRows
import Derived.Tactics
import Derived.Lib.ConvBytes
import Derived.Laws.Slices
import Derived.WalkKit
import Derived.KernelRfl
import Derived.RowKit3
import Derived.Deep.LoopGhost
import Derived.Deep.QuietTactic
import Derived.BigQuiet
import Derived.WideLaws
import Derived.Deep.DeepCutAuto
import Derived.Deep.CutBlock
import Derived.Deep.RegionHeld3
import Derived.Laws.Rows
import Derived.Lib.AppendStr
import Derived.ArgAppend
import Derived.Laws.IdiomCopy
import Derived.OrdersHeld
import Derived.Laws.BitsLemmas
import Derived.RowKit
import Derived.Test.YtefkhcijgiagdaaWWords
import Derived.Test.YtefkhcijgiagdaaWLast
import Derived.Test.YtefkhcijgiagdaaWTab
import Derived.Test.YtefkhcijgiagdaaWFour
import Derived.Test.YtefkhcijgiagdaaWQPut
import Derived.Test.YtefkhcijgiagdaaWApart
import Derived.Test.YtefkhcijgiagdaaWArr
import Derived.Test.YtefkhcijgiagdaaWZeros
import Derived.Test.YtefkhcijgiagdaaWFoot
import Derived.Test.YtefkhcijgiagdaaWKept
import Derived.Test.YtefkhcijgiagdaaWShare
import Derived.Test.YtefkhcijgiagdaaWN
import Derived.Test.YtefkhcijgiagdaaWFootNe
import Derived.Test.YtefkhcijgiagdaaWAt
import Derived.Test.YtefkhcijgiagdaaWEqStruct
import Derived.Test.YtefkhcijgiagdaaWRepsOne
import Derived.Test.YtefkhcijgiagdaaWInv
import Derived.Test.YtefkhcijgiagdaaWInvWords
import Derived.Test.YtefkhcijgiagdaaWGuard
import Derived.Test.YtefkhcijgiagdaaWNEv
import Derived.Test.YtefkhcijgiagdaaWMore
import Derived.Laws.Tables
import Derived.Laws.CopyOwn
import Derived.Deep.WholeRow
import Derived.ChangeKeysEq
import Derived.Shelf.Abstract
import Derived.Deep.RegionLaw
import Derived.Maps.OwnSet
import Derived.Test.YtefkhcijgiagdaaE1x0
import Derived.Test.YtefkhcijgiagdaaI1x0
import Derived.Test.YtefkhcijgiagdaaHAsm3
import Derived.Test.YtefkhcijgiagdaaHAsm2
import Derived.Test.YtefkhcijgiagdaaHAsm
namespace Go.Proofs.Ytefkhcijgiagdaa.HAsm
open Go.RowKit Go.Proofs.YtefkhcijgiagdaaW.PrintWords Go.Proofs.YtefkhcijgiagdaaW.PrintLast Go.Proofs.YtefkhcijgiagdaaW.PrintMore Go.Proofs.Ytefkhcijgiagdaa.I1 Go.Proofs.Ytefkhcijgiagdaa.E1
set_option linter.unusedVariables false
set_option linter.unusedSimpArgs false
set_option maxRecDepth 100000
set_option maxHeartbeats 1000000 in
theorem back_c {w : World} {A0 : Option Addr} {c0 lb nb : Nat} {l : List S40} (hC : Kd.C k40 w A0 l.length l) (hlb : w.heap[lb]? = some (.cells #[.slice A0 l.length c0] 33 (0, 0))) (hnb : w.heap[nb]? = some (.cells #[.int .i64 (l.length : Int)] 3 (0, 0)))
    (j : Nat) (hj : j < l.length) (hl : l.length ≤ 1000000) :
    Calls Try.prog 89 #[.int .i64 (j : Int), .pointer (some ⟨lb, 0, none⟩), .pointer (some ⟨nb, 0, none⟩)] w fun e w' =>
      e = .returned (.agg #[.int .i64 (rd_T40 l ((l.length - 1 - j : Nat) : Int)).f0, .int .u32 (rd_T40 l ((l.length - 1 - j : Nat) : Int)).f1, .int .i64 (rd_T40 l ((l.length - 1 - j : Nat) : Int)).f2, .int .i64 (rd_T40 l ((l.length - 1 - j : Nat) : Int)).f3]) ∧ Below w.heap.size w w' := by
  have hu40 := Try.underlying40
  obtain ⟨ad, e102, hx0, hx1, hx2, hx3⟩ := at_T40 hC ((l.length - 1 - j : Nat) : Int) (by omega) (by omega)
  cases e102
  have hl1 : lb < w.heap.size := (Array.getElem?_eq_some_iff.1 hlb).1
  have hl2 : nb < w.heap.size := (Array.getElem?_eq_some_iff.1 hnb).1
  have hl3 := World.block_lt_of_cell? w _ hx0
  have k1 : w.cell? ⟨lb, 0, none⟩ = some (.slice (some ad) l.length c0) := blk_cell hlb 0
  have k2 : w.cell? ⟨nb, 0, none⟩ = some (.int .i64 (l.length : Int)) := blk_cell hnb 0
  have e1 : wrap64 ((l.length : Int) - 1) = (l.length : Int) - 1 := by unfold wrap64; omega
  have e2 : wrap64 ((l.length : Int) - 1 - (j : Int)) = ((l.length - 1 - j : Nat) : Int) := by unfold wrap64; omega
  have b1 : (0 : Int) ≤ ((l.length - 1 - j : Nat) : Int) := by omega
  have b2 : ((l.length - 1 - j : Nat) : Int) < (l.length : Int) := by omega
  generalize rd_T40 l ((l.length - 1 - j : Nat) : Int) = x at *
  simp only [Int.toNat_natCast] at hx0 hx1 hx2 hx3 hl3
  clear hC hlb hnb
  go_enter Try.func89, Try.ntmps89
  go_wp2
  refine bodyPost_ret (v := .agg #[.int .i64 x.f0, .int .u32 x.f1, .int .i64 x.f2, .int .i64 x.f3]) (results_cell_row (p := 4) (by kernel_rfl) _ _ w.heap.size 40 #[.int .i64 x.f0, .int .u32 x.f1, .int .i64 x.f2, .int .i64 x.f3] (0, 0) _ rfl (heap_alloc_new _ _) Try.underlying40 rfl (by kernel_rfl)) rfl ⟨rfl, below_alloc (Below.refl _ _) _⟩
def runS (l : List S40) : Nat → WS
  | 0 => ⟨[], fun _ => none, 0, false⟩
  | j + 1 => stepS (runS l j) (rd_T40 l ((l.length - 1 - j : Nat) : Int))
def asm (l : List S40) : List S28 × Int :=
  if (runS l l.length).bad = true then ([], 1) else if 4096 < (runS l l.length).xs.length then ([], 64) else ((runS l l.length).xs.reverse, 0)
theorem step_len (s : WS) (o : S40) : (stepS s o).xs.length ≤ s.xs.length + 3 ∧ (stepS s o).n ≤ s.n + 1 := by
  unfold stepS
  repeat' split
  all_goals simp [WS.put, WS.go]
theorem runS_len (l : List S40) : ∀ j, (runS l j).xs.length ≤ 3 * j ∧ (runS l j).n ≤ j := by
  intro j
  induction j with
  | zero => exact ⟨Nat.le_refl _, Nat.le_refl _⟩
  | succ j ih =>
    have := step_len (runS l j) (rd_T40 l ((l.length - 1 - j : Nat) : Int))
    exact ⟨by show (stepS _ _).xs.length ≤ _; omega, by show (stepS _ _).n ≤ _; omega⟩
theorem St.made (w : World) (o1 : Obj) : StW (((w.alloc o1).alloc (.map #[] 0)).alloc (.cells #[.slice none 0 0, .map (some (w.heap.size + 1)), .bool false] 107)) w.heap.size (w.heap.size + 1 + 1) (w.heap.size + 1) ⟨[], fun _ => none, 0, false⟩ := by
  have e1 : (w.alloc o1).heap.size = w.heap.size + 1 := by simp
  have e2 : ((w.alloc o1).alloc (.map #[] 0)).heap.size = w.heap.size + 1 + 1 := by simp
  refine ⟨none, 0, ?_, Kd.R_nil _ _ _ _ _, ?_, by omega, by omega⟩
  · have := heap_alloc_new ((w.alloc o1).alloc (.map #[] 0)) (.cells #[.slice none 0 0, .map (some (w.heap.size + 1)), .bool false] 107)
    rw [e2] at this; exact this
  · have h := MapIs.made (w.alloc o1)
    rw [e1] at h
    exact h.kept (Below.heap_alloc _ _ _ (by rw [e2]; omega))
/-- The world in which the first loop begins. -/
theorem start_facts (w : World) (A0 : Option Addr) (n c0 : Nat) (m : Int) : ∀ wi, wi = ((((w.alloc (.cells #[.slice A0 n c0] 33)).alloc (.map #[] 0)).alloc (.cells #[.slice none 0 0, .map (some (w.heap.size + 1)), .bool false] 107)).alloc (.cells #[.int .i64 m] 3)) →
    StW wi w.heap.size (w.heap.size + 1 + 1) (w.heap.size + 1) ⟨[], fun _ => none, 0, false⟩ ∧ wi.heap[w.heap.size]? = some (.cells #[.slice A0 n c0] 33 (0, 0)) ∧ wi.heap[w.heap.size + 1 + 1 + 1]? = some (.cells #[.int .i64 m] 3 (0, 0)) ∧ Below w.heap.size w wi := by
  rintro wi rfl
  have s1 : (w.alloc (.cells #[.slice A0 n c0] 33)).heap.size = w.heap.size + 1 := by simp
  have s2 : ((w.alloc (.cells #[.slice A0 n c0] 33)).alloc (.map #[] 0)).heap.size = w.heap.size + 1 + 1 := by simp
  have s3 : (((w.alloc (.cells #[.slice A0 n c0] 33)).alloc (.map #[] 0)).alloc (.cells #[.slice none 0 0, .map (some (w.heap.size + 1)), .bool false] 107)).heap.size = w.heap.size + 1 + 1 + 1 := by simp
  refine ⟨((St.made w (.cells #[.slice A0 n c0] 33)).box _).2, ?_, ?_, below_alloc (below_alloc (below_alloc (below_alloc (Below.refl _ _) _) _) _) _⟩
  · rw [Below.heap_alloc _ _ _ (by rw [s3]; omega), Below.heap_alloc _ _ _ (by rw [s2]; omega), Below.heap_alloc _ _ _ (by rw [s1]; omega)]
    exact heap_alloc_new w _
  · have := heap_alloc_new (((w.alloc (.cells #[.slice A0 n c0] 33)).alloc (.map #[] 0)).alloc (.cells #[.slice none 0 0, .map (some (w.heap.size + 1)), .bool false] 107)) (.cells #[.int .i64 m] 3)
    rw [s3] at this; exact this
set_option maxHeartbeats 1000000 in
theorem asm_any (A0 : Option Addr) (c0 : Nat) (l : List S40) (r1 : List S28) (r2 : Int) (w : World) (hr : asm l = (r1, r2)) (hC : Kd.C k40 w A0 l.length l) (hc0 : l.length ≤ c0) (hl : l.length ≤ 100000) (hwf : ∀ i : Nat, i < l.length → (Lit.int .i64 (rd_T40 l i).f2).wf = true ∧ (Lit.int .i64 (rd_T40 l i).f3).wf = true) :
    Calls Try.prog 34 #[.slice A0 l.length c0] w fun e w' => ∃ v, e = .returned (.tuple #[v, .int .i64 r2]) ∧ Kd.R k28 28 w' w.heap.size (fun _ => True) v r1 ∧ Below w.heap.size w w' := by
  have hmm := @run_makeMap Try.prog
  have hu107 := Try.underlying107
  have HC := Aside0.mk hC
  have HW := Aside0.mk hwf
  have HR := Aside0.mk hr
  clear hC hwf hr
  go_enter Try.func34, Try.ntmps34
  go_wp2
  have hsf := start_facts w A0 l.length c0 (l.length : Int) _ rfl
  generalize ((((w.alloc (.cells #[.slice A0 l.length c0] 33)).alloc (.map #[] 0)).alloc (.cells #[.slice none 0 0, .map (some (w.heap.size + 1)), .bool false] 107)).alloc (.cells #[.int .i64 (l.length : Int)] 3)) = wi at hsf ⊢
  obtain ⟨hs0, hlb, hnb, hbi⟩ := hsf
  have HLB := Aside0.mk hlb
  have HNB := Aside0.mk hnb
  clear hlb hnb hmm
  go_loopw [17] (fun i wr => ∃ j : Nat, j ≤ l.length ∧ i = .int .i64 j ∧ StW wr w.heap.size (w.heap.size + 1 + 1) (w.heap.size + 1) (runS l j) ∧ Aside0 (Fr w.heap.size wi wr)) (fun i _ => l.length - (intOf i).toNat)
  case atStart => exact ⟨0, by omega, rfl, hs0, ⟨Fr.refl _ _⟩⟩
  case round =>
    clear hs0
    obtain ⟨j, hj, rfl, hs, hfr⟩ := hrel
    by_cases hlt : j < l.length
    · have hdj : decide ((j : Int) < (l.length : Int)) = true := decide_eq_true (by omega)
      have hb := hbi.trans hfr.out.bel
      have hback := back_c (j := j) (c0 := c0) (Kd.C_below HC.out hb) (hfr.out.keep _ _ _ (by decide) (by decide) HLB.out) (hfr.out.keep _ _ _ (by decide) (by decide) HNB.out) hlt (by omega)
      have hwj := HW.out (l.length - 1 - j) (by omega)
      have hlen := runS_len l j
      have hst := fun W (h : StW W w.heap.size (w.heap.size + 1 + 1) (w.heap.size + 1) (runS l j)) => step_c h (rd_T40 l ((l.length - 1 - j : Nat) : Int)) (by omega) (by omega) hwj.1 hwj.2
      have hrun : stepS (runS l j) (rd_T40 l ((l.length - 1 - j : Nat) : Int)) = runS l (j + 1) := rfl
      have hrun := Aside0.mk hrun
      clear hb hwj hlen
      generalize rd_T40 l ((l.length - 1 - j : Nat) : Int) = o at *
      go_wp2_with (first | (go_at_call 89; refine hback.mono ?_; rintro e w1 ⟨rfl, hb1⟩) | (go_at_call 90; refine (show Calls _ _ _ _ _ from hst _ (hs.below hb1)).mono ?_; rintro e w2 ⟨rfl, hb2, hs2⟩))
      go_roundw
      case rel => exact ⟨j + 1, by omega, by go_num, hrun.out ▸ hs2, ⟨(hfr.out.of_below hs.base hb1).trans hb2⟩⟩
      case measure => simp [intOf]; omega
    · obtain rfl : j = l.length := by omega
      have hdj : decide (((l.length : Nat) : Int) < (l.length : Int)) = false := decide_eq_false (by omega)
      have hb := Aside0.mk (hbi.trans hfr.out.bel)
      clear HC HW HLB HNB hfr hbi
      have hr := HR.out
      clear HR
      unfold asm at hr
      generalize runS l l.length = s at *
      obtain ⟨A, cap, hst⟩ := hs
      have k0 : wr.cell? ⟨w.heap.size + 1 + 1, 0, none⟩ = some (.slice A s.xs.length cap) := blk_cell hst.hW 0
      have k2 : wr.cell? ⟨w.heap.size + 1 + 1, 2, none⟩ = some (.bool s.bad) := blk_cell hst.hW 2
      by_cases hbad : s.bad = true
      · rw [if_pos hbad] at hr
        rw [hbad] at k2
        obtain ⟨rfl, rfl⟩ := Prod.mk.inj hr
        clear hst hr
        go_wp2
        go_ret2
        exact ⟨_, rfl, Kd.R_nil _ _ _ _ _, hb.out⟩
      · have hbad : s.bad = false := by simpa using hbad
        rw [if_neg (by rw [hbad]; decide)] at hr
        rw [hbad] at k2
        by_cases hbig : 4096 < s.xs.length
        · rw [if_pos hbig] at hr
          obtain ⟨rfl, rfl⟩ := Prod.mk.inj hr
          have hd : decide ((4096 : Int) < (s.xs.length : Int)) = true := decide_eq_true (by omega)
          clear hst hr
          go_wp2
          go_ret2
          exact ⟨_, rfl, Kd.R_nil _ _ _ _ _, hb.out⟩
        · rw [if_neg hbig] at hr
          obtain ⟨rfl, rfl⟩ := Prod.mk.inj hr
          have hd : decide ((4096 : Int) < (s.xs.length : Int)) = false := decide_eq_false (by omega)
          have HST := Aside0.mk hst
          clear hst hr
          go_wp2
          have hbig' : s.xs.length ≤ 4096 := by omega
          clear hbad hbig hd k2
          generalize hwL : wr = wL at *
          clear hwL
          go_loopw [8, 9] (fun v i w2 => ∃ m : Nat, m ≤ s.xs.length ∧ i = .int .i64 ((s.xs.length : Int) - 1 - (m : Int)) ∧ Kd.R k28 28 w2 wL.heap.size (fun _ => True) v (s.xs.reverse.take m) ∧ Below wL.heap.size wL w2) (fun _ i _ => (intOf i + 1).toNat)
          case atStart => exact ⟨0, by omega, by simp, Kd.R_nil _ _ _ _ _, Below.refl _ _⟩
          case round =>
            obtain ⟨m, hm, rfl, hR, hb2⟩ := hrel
            by_cases hlt : m < s.xs.length
            · have hst := HST.out
              have hdi : decide ((m : Int) ≤ (s.xs.length : Int) - 1) = true := decide_eq_true (by omega)
              have kk0 : wr.cell? ⟨w.heap.size + 1 + 1, 0, none⟩ = some (.slice A s.xs.length cap) := (hb2.cell (p := ⟨w.heap.size + 1 + 1, 0, none⟩) hst.lt).trans k0
              have hCx : Kd.C k28 wr A s.xs.length s.xs := by
                obtain ⟨A', c', e, _, h⟩ := Kd.R_reads (Kd.R_below hst.hR hb2)
                injection e with e1 e2 e3; subst e1; exact h
              obtain ⟨ad, e102, hx0, hx1, hx2, hx3⟩ := at_T28 hCx ((s.xs.length : Int) - 1 - (m : Int)) (by omega) (by omega)
              cases e102
              have hsnoc : s.xs.reverse.take m ++ [rd_T28 s.xs ((s.xs.length : Int) - 1 - (m : Int))] = s.xs.reverse.take (m + 1) := by
                rw [List.take_succ_eq_append_getElem (by simpa using hlt)]
                congr 2
                unfold rd_T28
                have e : ((s.xs.length : Int) - 1 - (m : Int)).toNat = s.xs.length - 1 - m := by omega
                rw [e, List.getElem_reverse]
                simp [List.getD, show s.xs.length - 1 - m < s.xs.length by omega]
              have HS := Aside0.mk hsnoc
              have hlenR : (s.xs.reverse.take m).length ≤ 4096 := by simp; omega
              have b1 : (0 : Int) ≤ (s.xs.length : Int) - 1 - (m : Int) := by omega
              have b2 : (s.xs.length : Int) - 1 - (m : Int) < (s.xs.length : Int) := by omega
              clear hsnoc hst hCx
              have etn : ((s.xs.length : Int) - 1 - (m : Int)).toNat = s.xs.length - 1 - m := by omega
              rw [etn] at hx0 hx1 hx2 hx3
              generalize rd_T28 s.xs ((s.xs.length : Int) - 1 - (m : Int)) = x at *
              go_wp2_with (at_builtin; refine Kd.R_append k28 wL.heap.size rfl (.tmp 48) (.tmp 56) 34 28 _ 32 rfl Try.underlying34 hInfo28 rfl (by decide) (by decide) _ (s.xs.reverse.take m) x [.int .i64 x.f0, .int .i64 x.f1, .int .i64 x.f2, .int .u32 x.f3] (fun _ => True) (fun _ => False) rfl rfl (k28_mkM _ _ _ x) (fun _ hk => hk.elim) (fun _ _ => trivial) hR hb2 hb2.size (by omega) ?_; intro v1 w1 hR1 hb1 hg1 hat1)
              refine ⟨⟨m + 1, by omega, ?_, by rw [← HS.out]; exact hR1, hb1⟩, ?_⟩
              · rw [show (s.xs.length : Int) - 1 - (m : Int) - 1 = (s.xs.length : Int) - 1 - ((m + 1 : Nat) : Int) by omega]
              · simp [intOf]; omega
            · obtain rfl : m = s.xs.length := by omega
              have hdi : decide (((s.xs.length : Nat) : Int) ≤ (s.xs.length : Int) - 1) = false := decide_eq_false (by omega)
              have hst := HST.out
              have HF := Aside0.mk (show Kd.R k28 28 wr w.heap.size (fun _ => True) _ s.xs.reverse ∧ Below w.heap.size w wr from by
                rw [List.take_of_length_le (by simp)] at hR
                exact ⟨Kd.R_lower hR hb.out.size, below_step hb.out hb2⟩)
              clear hR hst
              go_wp2
              go_ret2
              exact ⟨_, rfl, HF.out.1, HF.out.2⟩
/-! ### emit.Assemble: function 34, by hand -/
def inI (x : Int) : Bool := decide (-9223372036854775808 ≤ x ∧ x ≤ 9223372036854775807)
def emit_Assemble.f (l0 : List (S40)) : Option ((List (S28)) × Int) :=
  if l0.length ≤ 100000 ∧ (l0.all fun o => inI o.f2 && inI o.f3) = true then some (asm l0) else none
theorem emit_Assemble.calls (A0 : Option Addr) (c0 : Nat) (l0 : List (S40)) (r1 : List (S28)) (r2 : Int) (w : World) (hr0 : Kd.C k40 w A0 l0.length l0) (hc0 : l0.length ≤ c0) (h : emit_Assemble.f l0 = some (r1, r2)) :
    Calls Try.prog 34 #[.slice A0 l0.length c0] w fun e w' => ∃ v0_ : Value, e = .returned (.tuple #[v0_, .int .i64 r2]) ∧ Kd.R k28 28 w' w.heap.size (fun _ => True) v0_ r1 ∧ Below w.heap.size w w' := by
  unfold emit_Assemble.f at h
  split at h
  · rename_i hc
    refine asm_any A0 c0 l0 r1 r2 w (Option.some.inj h) hr0 hc0 hc.1 (fun i hi => ?_)
    have h1 := List.all_eq_true.1 hc.2 (rd_T40 l0 i) (by unfold rd_T40; simp [List.getD, hi])
    simp only [inI, Bool.and_eq_true, decide_eq_true_eq] at h1
    exact ⟨WalkArith.wf_i64 h1.1, WalkArith.wf_i64 h1.2⟩
  · cases h
end Go.Proofs.Ytefkhcijgiagdaa.HAsm
