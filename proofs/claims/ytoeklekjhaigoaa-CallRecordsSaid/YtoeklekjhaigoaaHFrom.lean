/- word.from: the first label of a name from a place on, walked: over slices.IndexFunc and a closure. -/
import Derived.Test.YtoeklekjhaigoaaProg
import Derived.Below
import Derived.Deep.Draws
import Derived.Deep.AppendLies
import Derived.Maps.AppendAt
import Derived.OwnWalk
import Derived.Laws.BytesArg
import Derived.Laws.MakeOwn
import Derived.Laws.OwnMore
import Derived.Deep.OwnRows
import Derived.Tactics
import Derived.Lib.ConvBytes
import Derived.Laws.Slices
import Derived.WalkKit
import Derived.KernelRfl
import Derived.RowKit3
import Derived.Deep.LoopGhost
import Derived.Deep.QuietTactic
import Derived.BigQuiet
import Derived.WideLaws
import Derived.Deep.DeepCutAuto
import Derived.Deep.CutBlock
import Derived.Deep.RegionHeld3
import Derived.Laws.Rows
import Derived.Lib.AppendStr
import Derived.ArgAppend
import Derived.Laws.IdiomCopy
import Derived.OrdersHeld
import Derived.Laws.BitsLemmas
import Derived.RowKit
import Derived.Test.YtoeklekjhaigoaaWWords
import Derived.Test.YtoeklekjhaigoaaWLast
import Derived.Test.YtoeklekjhaigoaaWTab
import Derived.Test.YtoeklekjhaigoaaWFour
import Derived.Test.YtoeklekjhaigoaaWQPut
import Derived.Test.YtoeklekjhaigoaaWApart
import Derived.Test.YtoeklekjhaigoaaWArr
import Derived.Test.YtoeklekjhaigoaaWZeros
import Derived.Test.YtoeklekjhaigoaaWFoot
import Derived.Test.YtoeklekjhaigoaaWKept
import Derived.Test.YtoeklekjhaigoaaWShare
import Derived.Test.YtoeklekjhaigoaaWN
import Derived.Test.YtoeklekjhaigoaaWFootNe
import Derived.Test.YtoeklekjhaigoaaWAt
import Derived.Test.YtoeklekjhaigoaaWEqStruct
import Derived.Test.YtoeklekjhaigoaaWRepsOne
import Derived.Test.YtoeklekjhaigoaaWInv
import Derived.Test.YtoeklekjhaigoaaWInvWords
import Derived.Test.YtoeklekjhaigoaaWGuard
import Derived.Test.YtoeklekjhaigoaaWNEv
import Derived.Test.YtoeklekjhaigoaaWMore
import Derived.Laws.Tables
import Derived.Laws.CopyOwn
import Derived.Deep.WholeRow
import Derived.ChangeKeysEq
import Derived.Shelf.Abstract
import Derived.Deep.RegionLaw
import Derived.Maps.OwnSet
import Derived.Test.YtoeklekjhaigoaaW0x0
namespace Go.Proofs.Ytoeklekjhaigoaa.HFrom
open Go.RowKit Go.Proofs.YtoeklekjhaigoaaW.PrintWords Go.Proofs.YtoeklekjhaigoaaW.PrintLast Go.Proofs.YtoeklekjhaigoaaW.PrintMore Go.Proofs.Ytoeklekjhaigoaa.W0
set_option linter.unusedVariables false
set_option linter.unusedSimpArgs false
set_option maxRecDepth 100000
/-! ### the first one of which p holds -/
def idxN {α : Type} (p : α → Bool) : List α → Option Nat
  | [] => none
  | x :: l => if p x = true then some 0 else (idxN p l).map (· + 1)
def idxI {α : Type} (p : α → Bool) (l : List α) : Int := match idxN p l with | some i => (i : Int) | none => -1
theorem idxN_hit {α : Type} (p : α → Bool) (z : α) : ∀ (l : List α) (k : Nat), k < l.length → (∀ j, j < k → p (l.getD j z) = false) → p (l.getD k z) = true → idxN p l = some k := by
  intro l
  induction l with
  | nil => intro k h; exact absurd h (Nat.not_lt_zero _)
  | cons x l ih =>
    intro k h h1 h2
    unfold idxN
    cases k with
    | zero => rw [if_pos (by simpa using h2)]
    | succ k =>
      have h0 := h1 0 (by omega)
      rw [if_neg (by simpa using h0), ih k (by simpa using h) (fun j hj => by simpa using h1 (j + 1) (by omega)) (by simpa using h2)]
      rfl
theorem idxN_miss {α : Type} (p : α → Bool) (z : α) : ∀ (l : List α), (∀ j, j < l.length → p (l.getD j z) = false) → idxN p l = none := by
  intro l
  induction l with
  | nil => intro _; rfl
  | cons x l ih =>
    intro h1
    unfold idxN
    have h0 := h1 0 (by simp)
    rw [if_neg (by simpa using h0), ih (fun j hj => by simpa using h1 (j + 1) (by simpa using hj))]
    rfl
theorem idxN_lt {α : Type} (p : α → Bool) : ∀ (l : List α) (k : Nat), idxN p l = some k → k < l.length := by
  intro l
  induction l with
  | nil => intro k h; cases h
  | cons x l ih =>
    intro k h
    unfold idxN at h
    split at h
    · cases h; simp
    · obtain ⟨m, hm, rfl⟩ := Option.map_eq_some_iff.1 h
      have := ih m hm
      simp; omega
theorem idxI_range {α : Type} (p : α → Bool) (l : List α) : -1 ≤ idxI p l ∧ idxI p l < (l.length : Int) ∨ idxI p l = -1 := by
  unfold idxI
  cases h : idxN p l with
  | none => right; rfl
  | some k => left; have := idxN_lt p l k h; simp only; omega
set_option maxHeartbeats 2000000 in
theorem idx_c {g : Nat} {lb : Array Value} (p : S40 → Bool) (eg : ∀ args w, (callFunc g args).run Try.prog w = .ok (.enter g args) w) (A : Option Addr) (c0 : Nat) (l : List S40) (w : World) (hC : Kd.C k40 w A l.length l) (hl : l.length ≤ 1000000)
    (hp : ∀ (W : World) (x : S40), Below w.heap.size w W → Calls Try.prog g (#[.agg #[.int .i64 x.f0, .int .u32 x.f1, .int .i64 x.f2, .int .i64 x.f3]] ++ lb) W fun e w' => e = .returned (.bool (p x)) ∧ Below W.heap.size W w') :
    Calls Try.prog 117 #[.slice A l.length c0, .func (.func g) #[] lb] w fun e w' => e = .returned (.int .i64 (idxI p l)) ∧ Below w.heap.size w w' := by
  go_enter Try.func117, Try.ntmps117
  go_wp2
  go_loopg [5, 8] l.length (fun gg _ s8 wr => ∃ kk : Nat, kk ≤ l.length ∧ l.length - kk ≤ gg ∧ s8 = .int .i64 kk ∧ Aside0 (Below w.heap.size w wr) ∧ Aside0 (∀ j, j < kk → p (l.getD j z40) = false))
  case atStart => exact ⟨0, Nat.zero_le _, by omega, rfl, ⟨Below.refl _ w⟩, ⟨fun j hj => absurd hj (Nat.not_lt_zero _)⟩⟩
  case round =>
    obtain ⟨kk, hkk, hg, rfl, BW, AA⟩ := hrel
    by_cases hlt : kk < l.length
    · have hltz : (kk : Int) < (l.length : Int) := by omega
      obtain ⟨ad, e102, hx0, hx1, hx2, hx3⟩ := at_T40 (Kd.C_below hC BW.out) (kk : Int) (by omega) (by omega)
      cases e102
      have hcall := hp wr (l.getD kk z40) BW.out
      have hrd : rd_T40 l (kk : Int) = l.getD kk z40 := rfl
      rw [hrd] at hx0 hx1 hx2 hx3
      simp only [Int.toNat_natCast] at hx0 hx1 hx2 hx3
      clear hrd hC hp
      generalize hy : l.getD kk z40 = y at hx0 hx1 hx2 hx3 hcall
      have B : Aside0 (l.getD kk z40 = y) := ⟨hy⟩
      clear hy
      cases hq : p y with
      | true =>
        rw [hq] at hcall
        go_wp2_with (go_at_fn g; refine hcall.mono ?_; rintro e w' ⟨rfl, hb'⟩)
        go_ret
        refine ⟨?_, below_step BW.out hb'⟩
        unfold idxI
        rw [idxN_hit p z40 l kk hlt AA.out (by rw [B.out]; exact hq)]; rfl
      | false =>
        rw [hq] at hcall
        go_wp2_with (go_at_fn g; refine hcall.mono ?_; rintro e w' ⟨rfl, hb'⟩)
        go_roundg (l.length - (kk + 1))
        case measure => omega
        case rel =>
          refine ⟨kk + 1, by omega, by omega, by go_num, ⟨below_step BW.out hb'⟩, ⟨fun j hj => ?_⟩⟩
          by_cases e : j = kk
          · subst e
            rw [B.out]; exact hq
          · exact AA.out j (by omega)
    · have hltz : ¬ (kk : Int) < (l.length : Int) := by omega
      obtain rfl : kk = l.length := by omega
      clear hC hp
      go_wp2
      go_ret
      refine ⟨?_, BW.out⟩
      unfold idxI
      rw [idxN_miss p z40 l AA.out]; rfl
/-! ### the closure -/
def isLab (lb : Int) (o : S40) : Bool := decide (o.f0 = 6) && (o.f2 == lb)
theorem lab_c (x : S40) (lb : Int) (B : Nat) (w : World) (hlt : B < w.heap.size) (hB : w.cell? ⟨B, 0, none⟩ = some (.int .i64 lb)) :
    Calls Try.prog 118 #[.agg #[.int .i64 x.f0, .int .u32 x.f1, .int .i64 x.f2, .int .i64 x.f3], .pointer (some ⟨B, 0, none⟩)] w fun e w' => e = .returned (.bool (isLab lb x)) ∧ Below w.heap.size w w' := by
  obtain ⟨a, b, c, d⟩ := x
  have hu40 := Try.underlying40
  unfold isLab
  simp only
  by_cases h6 : a = 6
  · subst h6
    go_enter Try.func118, Try.ntmps118
    go_wp2
    go_ret
    exact ⟨by simp, below_alloc (Below.refl _ _) _⟩
  · go_enter Try.func118, Try.ntmps118
    go_wp2
    go_ret
    exact ⟨by simp [h6], below_alloc (Below.refl _ _) _⟩
theorem size40 : (Try.prog.info? 40).map (·.size) = some 4 := by kernel_rfl
theorem eg_lab : ∀ args w, (callFunc 118 args).run Try.prog w = .ok (.enter 118 args) w := enters_of Try.func118 (by kernel_rfl) rfl
set_option maxHeartbeats 2000000 in
theorem from_any (A : Option Addr) (c0 : Nat) (l : List S40) (at_ lb : Int) (w : World) (hC : Kd.C k40 w A l.length l) (hc0 : l.length ≤ c0) (hl : l.length ≤ 1000000) (h0 : 0 ≤ at_) (h1 : at_ ≤ l.length) :
    Calls Try.prog 82 #[.slice A l.length c0, .int .i64 at_, .int .i64 lb] w fun e w' => e = .returned (.tuple #[.int .i64 (at_ + idxI (isLab lb) (l.drop at_.toNat)), .bool (decide (0 ≤ idxI (isLab lb) (l.drop at_.toNat)))]) ∧ Below w.heap.size w w' := by
  obtain ⟨i40, hi40, hsz40⟩ := Option.map_eq_some_iff.1 size40
  have hcut := cut_from 33 40 .i64 Try.underlying33 hi40 4 hsz40 A l.length c0 at_ h0 h1
  have hCd := Kd.C_drop (c := c0) (m := at_.toNat) hC (by omega) hc0
  have hmf : ∀ (fn : Fn) (first cap : Array Value) (w : World), (Instr.makeFunc fn first cap).run Try.prog w = .ok (.func fn first cap) w := fun _ _ _ _ => rfl
  have hdl : (l.drop at_.toNat).length = l.length - at_.toNat := List.length_drop
  rw [show k40.sz = 4 from rfl] at hCd
  generalize (if c0 = at_.toNat then A else A.map (·.add (at_.toNat * 4))) = A2 at hcut hCd
  have hr := idxI_range (isLab lb) (l.drop at_.toNat)
  generalize hd : l.drop at_.toNat = ld at *
  generalize hm : l.length - at_.toNat = m at *
  have hidx := fun (W : World) (hW : Below w.heap.size w W) (B : Nat) (hB1 : B < W.heap.size) (hB : W.cell? ⟨B, 0, none⟩ = some (.int .i64 lb)) => (show Calls Try.prog 117 #[.slice A2 m (c0 - at_.toNat), .func (.func 118) #[] #[.pointer (some ⟨B, 0, none⟩)]] W fun e w' => e = .returned (.int .i64 (idxI (isLab lb) ld)) ∧ Below W.heap.size W w' from hdl ▸ idx_c (g := 118) (lb := #[.pointer (some ⟨B, 0, none⟩)]) (isLab lb) eg_lab A2 (c0 - at_.toNat) ld W (Kd.C_below hCd hW) (by omega) (fun W2 x h2 => lab_c x lb B W2 (Nat.lt_of_lt_of_le hB1 h2.size) ((h2.cell (p := ⟨B, 0, none⟩) hB1).trans hB)))
  have hlen : m ≤ 1000000 := by omega
  have hb := below_alloc (Below.refl w.heap.size w) (.cells #[.int .i64 lb] 3)
  generalize idxI (isLab lb) ld = r at *
  have hr2 : -1 ≤ r ∧ r ≤ 1000000 := by omega
  have hd2 : (r ≥ 0) = (0 ≤ r) := rfl
  clear hC hCd hdl hd hm hr
  go_enter Try.func82, Try.ntmps82
  go_wp2_with (go_at_call 117; refine (hidx _ hb w.heap.size (by simp) (by simp)).mono ?_; rintro e w1 ⟨rfl, hb1⟩)
  go_ret2
  exact ⟨by simp, below_step hb hb1⟩
/-! ### word.from: by hand -/
def word_from.f (l0 : List (S40)) (a1 a2 : Int) : Option (Int × Bool) :=
  if 0 ≤ a1 ∧ a1 ≤ (l0.length : Int) ∧ l0.length ≤ 1000000 then some (a1 + idxI (isLab a2) (l0.drop a1.toNat), decide (0 ≤ idxI (isLab a2) (l0.drop a1.toNat))) else none
theorem word_from.calls (A0 : Option Addr) (c0 : Nat) (l0 : List (S40)) (a1 a2 : Int) (r1 : Int) (r2 : Bool) (w : World) (hr0 : Kd.C k40 w A0 l0.length l0) (hc0 : l0.length ≤ c0) (h : word_from.f l0 a1 a2 = some (r1, r2)) :
    Calls Try.prog 82 #[.slice A0 l0.length c0, .int .i64 a1, .int .i64 a2] w fun e w' => e = .returned (.tuple #[.int .i64 r1, .bool r2]) ∧ Below w.heap.size w w' := by
  unfold word_from.f at h
  split at h
  · rename_i hc
    have h2 := from_any A0 c0 l0 a1 a2 w hr0 hc0 hc.2.2 hc.1 hc.2.1
    obtain ⟨e1, e2⟩ := Prod.mk.inj (Option.some.inj h)
    rw [e1, e2] at h2
    exact h2
  · cases h
end Go.Proofs.Ytoeklekjhaigoaa.HFrom
