/- CheckTells: which filters may be, and where one may not, and which cells are written on each way to each instruction, is as the document says. -/
import Derived.Test.YtefkhcijgiagdaaZCheckTells0
section
namespace Go.Proofs.Ytefkhcijgiagdaa.HCk
open Go.RowKit Go.Proofs.YtefkhcijgiagdaaW.PrintWords Go.Proofs.YtefkhcijgiagdaaW.PrintLast Go.Proofs.YtefkhcijgiagdaaW.PrintMore Go.Proofs.Ytefkhcijgiagdaa.HKnown Go.Proofs.Ytefkhcijgiagdaa.I1 Go.Proofs.Ytefkhcijgiagdaa.QVm Go.Proofs.Ytefkhcijgiagdaa.QLe Go.Proofs.Ytefkhcijgiagdaa.QCheck Go.Proofs.Ytefkhcijgiagdaa.K0
set_option linter.unusedVariables false
set_option linter.unusedSimpArgs false
set_option maxRecDepth 100000
attribute [local go_sem] max2_int min2_int max_two min_two IntKind.wrap_u32
/-- Blocks made one behind the other. -/
def allocL (w : World) : List Obj → World
  | [] => w
  | o :: os => allocL (w.alloc o) os
theorem allocL_below (w : World) : ∀ (os : List Obj) (w' : World), Below w.heap.size w w' → Below w.heap.size w (allocL w' os)
  | [], _, h => h
  | o :: os, w', h => allocL_below w os (w'.alloc o) (below_alloc h o)
theorem allocL_get : ∀ (os : List Obj) (w : World) (k : Nat) (o : Obj), os[k]? = some o → (allocL w os).heap[w.heap.size + k]? = some o := by
  intro os
  induction os with
  | nil => intro w k o h; simp at h
  | cons o' os ih =>
    intro w k o h
    cases k with
    | zero =>
      obtain rfl : o' = o := by simpa using h
      have hb := allocL_below (w.alloc o') os _ (Below.refl _ _)
      exact (hb.block w.heap.size (by simp)).trans (heap_alloc_new w o')
    | succ k =>
      have := ih (w.alloc o') k o (by simpa using h)
      rw [World.size_alloc] at this
      rw [show w.heap.size + (k + 1) = w.heap.size + 1 + k by omega]
      exact this
def tblObj (b : Nat) : Obj := .cells #[.slice (some ⟨b, 0, none⟩) 1 1, .func (.func 153) #[] #[], .slice (some ⟨b + 1, 0, none⟩) 4 4, .func (.func 150) #[] #[], .slice (some ⟨b + 2, 0, none⟩) 1 1, .func (.func 154) #[] #[], .slice (some ⟨b + 3, 0, none⟩) 2 2, .func (.func 151) #[] #[], .slice (some ⟨b + 4, 0, none⟩) 1 1, .func (.func 155) #[] #[], .slice (some ⟨b + 5, 0, none⟩) 8 8, .func (.func 152) #[] #[]] 173
def tblObjs (b : Nat) : List Obj := [.cells #[.int .i64 32] 3, .cells #[.int .i64 96, .int .i64 97, .int .i64 2, .int .i64 3] 3, .cells #[.int .i64 52] 3, .cells #[.int .i64 100, .int .i64 116] 3, .cells #[.int .i64 5] 3, .cells #[.int .i64 21, .int .i64 37, .int .i64 53, .int .i64 69, .int .i64 29, .int .i64 45, .int .i64 61, .int .i64 77] 3, tblObj b]
theorem add0 (g j : Nat) : (⟨g, 0, none⟩ : Addr).add j = ⟨g, j, none⟩ := add_plain g j
theorem tests_at (w : World) : TestsAt (allocL w (tblObjs w.heap.size)) ⟨w.heap.size + 6, 0, none⟩ (fun t => ⟨w.heap.size + t, 0, none⟩) := by
  have h6 := blk_cell (allocL_get (tblObjs w.heap.size) w 6 _ rfl)
  have h0 := blk_cell (allocL_get (tblObjs w.heap.size) w 0 _ rfl)
  have h1 := blk_cell (allocL_get (tblObjs w.heap.size) w 1 _ rfl)
  have h2 := blk_cell (allocL_get (tblObjs w.heap.size) w 2 _ rfl)
  have h3 := blk_cell (allocL_get (tblObjs w.heap.size) w 3 _ rfl)
  have h4 := blk_cell (allocL_get (tblObjs w.heap.size) w 4 _ rfl)
  have h5 := blk_cell (allocL_get (tblObjs w.heap.size) w 5 _ rfl)
  generalize allocL w (tblObjs w.heap.size) = W at *
  refine ⟨fun t ht => ?_, fun t ht => ?_, fun t j ht hj => ?_⟩
  · match t, ht with
    | 0, _ | 1, _ | 2, _ | 3, _ | 4, _ | 5, _ => rw [add0]; exact (h6 _).trans rfl
  · match t, ht with
    | 0, _ | 1, _ | 2, _ | 3, _ | 4, _ | 5, _ => rw [add0]; exact (h6 _).trans rfl
  · rw [add0]
    match t, ht, j, hj with
    | 0, _, 0, _ => exact (h0 0).trans rfl
    | 1, _, 0, _ | 1, _, 1, _ | 1, _, 2, _ | 1, _, 3, _ => exact (h1 _).trans rfl
    | 2, _, 0, _ => exact (h2 0).trans rfl
    | 3, _, 0, _ | 3, _, 1, _ => exact (h3 _).trans rfl
    | 4, _, 0, _ => exact (h4 0).trans rfl
    | 5, _, 0, _ | 5, _, 1, _ | 5, _, 2, _ | 5, _, 3, _ | 5, _, 4, _ | 5, _, 5, _ | 5, _, 6, _ | 5, _, 7, _ => exact (h5 _).trans rfl
theorem tests_any (w : World) : Calls Try.prog 128 #[] w fun e w' => ∃ ad ac, e = .returned (.slice (some ad) 6 6) ∧ (TestsAt w' ad ac ∧ w.heap.size ≤ ad.block ∧ ∀ t, w.heap.size ≤ (ac t).block) ∧ Below w.heap.size w w' := by
  have HT := Aside0.mk (tests_at w)
  have HB := Aside0.mk (allocL_below w (tblObjs w.heap.size) w (Below.refl _ _))
  go_enter Try.func128, Try.ntmps128
  go_wp2
  go_ret
  exact ⟨_, _, rfl, ⟨HT.out, Nat.le_add_right _ 6, fun t => Nat.le_add_right _ _⟩, HB.out⟩
/-- What the map holds when some of the table has been gone through. -/
def Lg (L : Int → Option Nat) (t : Nat) : Nat → Int → Option Nat
  | 0 => L
  | j + 1 => fun x => if x = (codesT t).getD j 0 then some (fnT t) else Lg L t j x
def Lt : Nat → Int → Option Nat
  | 0 => fun _ => none
  | t + 1 => Lg (Lt t) t (codesT t).length
theorem Lt6 : Lt 6 = Lc := by
  funext c
  by_cases hm : c = 77 ∨ c = 61 ∨ c = 45 ∨ c = 29 ∨ c = 69 ∨ c = 53 ∨ c = 37 ∨ c = 21 ∨ c = 5 ∨ c = 116 ∨ c = 100 ∨ c = 52 ∨ c = 3 ∨ c = 2 ∨ c = 97 ∨ c = 96 ∨ c = 32
  · rcases hm with rfl | rfl | rfl | rfl | rfl | rfl | rfl | rfl | rfl | rfl | rfl | rfl | rfl | rfl | rfl | rfl | rfl <;> rfl
  · have e : Lc c = none := by
      unfold Lc
      rw [if_neg (by omega), if_neg (by omega), if_neg (by omega), if_neg (by omega), if_neg (by omega), if_neg (by omega)]
    rw [e]
    show (if c = 77 then some 152 else if c = 61 then some 152 else if c = 45 then some 152 else if c = 29 then some 152 else if c = 69 then some 152 else if c = 53 then some 152 else if c = 37 then some 152 else if c = 21 then some 152 else if c = 5 then some 155 else if c = 116 then some 151 else if c = 100 then some 151 else if c = 52 then some 154 else if c = 3 then some 150 else if c = 2 then some 150 else if c = 97 then some 150 else if c = 96 then some 150 else if c = 32 then some 153 else none : Option Nat) = none
    rw [if_neg (by omega), if_neg (by omega), if_neg (by omega), if_neg (by omega), if_neg (by omega), if_neg (by omega), if_neg (by omega), if_neg (by omega), if_neg (by omega), if_neg (by omega), if_neg (by omega), if_neg (by omega), if_neg (by omega), if_neg (by omega), if_neg (by omega), if_neg (by omega), if_neg (by omega)]
theorem codes_wf (t j : Nat) (ht : t < 6) (hj : j < (codesT t).length) : (Lit.int .i64 ((codesT t).getD j 0)).wf = true := by
  match t, ht, j, hj with
  | 0, _, 0, _ => decide
  | 1, _, 0, _ | 1, _, 1, _ | 1, _, 2, _ | 1, _, 3, _ => decide
  | 2, _, 0, _ => decide
  | 3, _, 0, _ | 3, _, 1, _ => decide
  | 4, _, 0, _ => decide
  | 5, _, 0, _ | 5, _, 1, _ | 5, _, 2, _ | 5, _, 3, _ | 5, _, 4, _ | 5, _, 5, _ | 5, _, 6, _ | 5, _, 7, _ => decide
theorem codes_len (t : Nat) : (codesT t).length ≤ 8 := by
  match t with
  | 0 | 1 | 2 | 3 | 4 => decide
  | n + 5 => exact Nat.le_refl 8
/-- Fields that the types allow. -/
def IW (i : S28) : Prop := (Lit.int .i64 i.f0).wf = true ∧ (Lit.int .i64 i.f1).wf = true ∧ (Lit.int .i64 i.f2).wf = true ∧ U i.f3
theorem MapF.mono {w : World} {b n n' : Nat} {L : Int → Option Nat} (h : MapF w b n L) (hn : n ≤ n') : MapF w b n' L := by
  obtain ⟨D, h1, h2⟩ := h
  exact ⟨D, h1.mono hn, h2⟩
structure Mid1 (w wr : World) (ad : Addr) (ac : Nat → Addr) (n : Nat) (L : Int → Option Nat) : Prop where
  hM : MapF wr w.heap.size n L
  hT : TestsAt wr ad ac
  hb : Below w.heap.size w wr
  n1 : w.heap.size < ad.block
  n2 : ∀ t, w.heap.size < (ac t).block
theorem Mid1.below {w wr w' : World} {ad : Addr} {ac : Nat → Addr} {n : Nat} {L : Int → Option Nat} (h : Mid1 w wr ad ac n L) (hb : Below wr.heap.size wr w') : Mid1 w w' ad ac n L :=
  ⟨h.hM.below hb, h.hT.below hb, below_step h.hb hb, h.n1, h.n2⟩
theorem grown_cell {w w' : World} {b : Nat} (hg : w.grownBy w' (some b)) {a : Addr} {v : Value} (hc : w.cell? a = some v) (hn : b < a.block) : w'.cell? a = some v := by
  have hl := World.block_lt_of_cell? w a hc
  have := hg.block a.block hl (fun e => by injection e with e; omega)
  simp only [World.cell?, this] at hc ⊢
  exact hc
theorem add_blk (a : Addr) (j : Nat) : (a.add j).block = a.block := add_block a j
theorem Mid1.grown {w wr w' : World} {ad : Addr} {ac : Nat → Addr} {n n' : Nat} {L L' : Int → Option Nat} (h : Mid1 w wr ad ac n L) (hM : MapF w' w.heap.size n' L') (hg : wr.grownBy w' (some w.heap.size)) : Mid1 w w' ad ac n' L' :=
  ⟨hM, ⟨fun t ht => grown_cell hg (h.hT.sl t ht) (by rw [add_blk]; exact h.n1), fun t ht => grown_cell hg (h.hT.fn t ht) (by show _ < (ad.add (t * 2)).block; rw [add_blk]; exact h.n1), fun t j ht hj => grown_cell hg (h.hT.cd t j ht hj) (by rw [add_blk]; exact h.n2 t)⟩, h.hb.grown hg h.hb.size (fun k hk => by injection hk with hk; omega), h.n1, h.n2⟩
theorem first_at (l : List S28) : ∀ k, k < l.length → (∀ j, j < k → wellB (at_ l j) ((l.length : Int) - 1 - (j : Int)) = true) → wellB (at_ l k) ((l.length : Int) - 1 - (k : Int)) = false → firstB l = some k := by
  induction l with
  | nil => intro k h; simp at h
  | cons i l ih =>
    intro k hk hj hb
    unfold firstB
    rw [List.length_cons] at hj hb hk
    cases k with
    | zero =>
      have e : ((l.length + 1 : Nat) : Int) - 1 - ((0 : Nat) : Int) = (l.length : Int) := by omega
      rw [e] at hb
      have hb' : wellB i (l.length : Int) = false := hb
      rw [if_neg (by rw [hb']; decide)]
    | succ k =>
      have h0 := hj 0 (by omega)
      have e : ((l.length + 1 : Nat) : Int) - 1 - ((0 : Nat) : Int) = (l.length : Int) := by omega
      rw [e] at h0
      have h0' : wellB i (l.length : Int) = true := h0
      have g : firstB l = some k := by
        refine ih k (by omega) (fun j hjk => ?_) ?_
        · have := hj (j + 1) (by omega)
          rw [show ((l.length + 1 : Nat) : Int) - 1 - ((j + 1 : Nat) : Int) = (l.length : Int) - 1 - (j : Int) by omega] at this
          exact this
        · rw [show ((l.length + 1 : Nat) : Int) - 1 - ((k + 1 : Nat) : Int) = (l.length : Int) - 1 - (k : Int) by omega] at hb
          exact hb
      rw [if_pos h0', g]
      rfl
theorem first_all (l : List S28) (h : ∀ j, j < l.length → wellB (at_ l j) ((l.length : Int) - 1 - (j : Int)) = true) : firstB l = none := by
  rw [first_none]
  intro k hk
  have := h k hk
  rw [show (l.length : Int) - 1 - (k : Int) = ((l.length - 1 - k : Nat) : Int) by omega] at this
  exact this
def allR (o : Option Nat) : Int × Int := match o with | some k => ((k : Int), 51) | none => (0, 0)
theorem allV_eq (l : List S28) : allV l = if l.length = 0 then (0, 51) else if 4096 < l.length then (0, 2) else allR (firstB l) := rfl
theorem rd_at (l : List S28) (k : Nat) : rd_T28 l (k : Int) = at_ l k := by unfold rd_T28 at_; rw [Int.toNat_natCast]; rfl
set_option maxHeartbeats 4000000 in
theorem all_c {w : World} {A0 : Option Addr} {c0 : Nat} {l : List S28} (hC : Kd.C k28 w A0 l.length l) (hc0 : l.length ≤ c0) (hlen : l.length ≤ 100000) (hi : ∀ i ∈ l, IW i) :
    Calls Try.prog 99 #[.slice A0 l.length c0] w fun e w' => e = .returned (.tuple #[.int .i64 (allV l).1, .int .i64 (allV l).2]) ∧ Below w.heap.size w w' := by
  have hmm := @run_makeMap Try.prog
  have hu28 := Try.underlying28
  have hu173 := Try.underlying173
  have HC := Aside0.mk hC
  have HI := Aside0.mk hi
  clear hC hi
  rw [allV_eq]
  by_cases h0 : l.length = 0
  · rw [if_pos h0]
    have d0 : ((l.length : Int) == 0) = true := beq_iff_eq.2 (by omega)
    clear h0
    go_enter Try.func99, Try.ntmps99
    go_wp2
    go_ret2
    exact ⟨rfl, Below.refl _ _⟩
  rw [if_neg h0]
  have d0 : ((l.length : Int) == 0) = false := beq_eq_false_iff_ne.2 (by omega)
  by_cases h1 : 4096 < l.length
  · rw [if_pos h1]
    have d1 : decide ((4096 : Int) < (l.length : Int)) = true := decide_eq_true (by omega)
    clear h0 h1
    go_enter Try.func99, Try.ntmps99
    go_wp2
    go_ret2
    exact ⟨rfl, Below.refl _ _⟩
  rw [if_neg h1]
  have d1 : decide ((4096 : Int) < (l.length : Int)) = false := decide_eq_false (by omega)
  generalize hr : allR (firstB l) = r
  have HR := Aside0.mk hr
  clear hr h0 h1
  have HM0 := Aside0.mk (MapF.made w)
  go_enter Try.func99, Try.ntmps99
  go_wp2_with (go_at_call 128; refine (tests_any _).mono ?_; rintro e w1 ⟨ad, ac, rfl, ⟨ht, hn1, hn2⟩, hb1⟩; rw [World.size_alloc] at hn1 hn2; have HM1 := Aside0.mk (show Mid1 w w1 ad ac 0 (Lt 0) from ⟨HM0.out.below hb1, ht, below_step (below_alloc (Below.refl _ _) (.map #[] 0)) hb1, by omega, fun t => by have := hn2 t; omega⟩); clear ht hb1 hn1 hn2)
  go_loopw [23] (fun i wr => ∃ t : Nat, t ≤ 6 ∧ i = .int .i64 t ∧ Aside0 (Mid1 w wr ad ac (10 * t) (Lt t))) (fun i _ => 6 - (intOf i).toNat)
  case atStart => exact ⟨0, by omega, rfl, ⟨HM1.out⟩⟩
  case round =>
    clear HM1 HM0
    obtain ⟨t, ht, rfl, hm⟩ := hrel
    by_cases hlt : t < 6
    · have hdj : decide ((t : Int) < 6) = true := decide_eq_true (by omega)
      have k0 := hm.out.hT.sl t hlt
      have k1 := hm.out.hT.fn t hlt
      have hcl := codes_len t
      have HCD := Aside0.mk (fun j (hj : j < (codesT t).length) => codes_wf t j hlt hj)
      have HLS := Aside0.mk (show Lg (Lt t) t (codesT t).length = Lt (t + 1) from rfl)
      generalize hn : (codesT t).length = n at *
      have HN := Aside0.mk hn
      clear hn
      generalize hft : fnT t = ft at *
      have HF := Aside0.mk hft
      clear hft
      have HBX := Aside0.mk (heap_alloc_new wr (.cells #[.slice (some (ac t)) n n, .func (.func ft) #[] #[]] 173))
      have HM2 := Aside0.mk (hm.out.below (below_alloc (Below.refl _ _) (.cells #[.slice (some (ac t)) n n, .func (.func ft) #[] #[]] 173)))
      have HBL := Aside0.mk (Nat.lt_of_lt_of_le hm.out.hM.lt (Nat.le_refl wr.heap.size))
      clear hm
      go_wp2
      generalize hbx : wr.heap.size = bx at *
      clear hbx
      go_loopw [30] (fun i w2 => ∃ j : Nat, j ≤ n ∧ i = .int .i64 j ∧ Aside0 (Mid1 w w2 ad ac (10 * t + j) (Lg (Lt t) t j)) ∧ Aside0 (w2.heap[bx]? = some (.cells #[.slice (some (ac t)) n n, .func (.func ft) #[] #[]] 173 (0, 0)))) (fun i _ => n - (intOf i).toNat)
      case atStart => exact ⟨0, by omega, rfl, ⟨HM2.out⟩, ⟨HBX.out⟩⟩
      case round =>
        clear HM2 HBX
        obtain ⟨j, hj, rfl, hm, hx⟩ := hrel
        by_cases hltj : j < n
        · have hdk : decide ((j : Int) < (n : Int)) = true := decide_eq_true (by omega)
          have kc := hm.out.hT.cd t j hlt (by rw [HN.out]; exact hltj)
          have kx0 := blk_cell hx.out 0
          have kx1 := blk_cell hx.out 1
          have hwf := HCD.out j hltj
          have HST := Aside0.mk (show (fun x => if x = (codesT t).getD j 0 then some ft else Lg (Lt t) t j x) = Lg (Lt t) t (j + 1) from by rw [← HF.out]; rfl)
          generalize (codesT t).getD j 0 = c at *
          obtain ⟨w3, hrun, hM3, hg3⟩ := hm.out.hM.store (by omega) c ft hwf
          have HM3 := Aside0.mk (hm.out.grown (HST.out ▸ hM3) hg3)
          have HX3 := Aside0.mk (blk_grown hx.out hg3 (by intro e; injection e with e; have := HBL.out; omega))
          clear hM3 hg3 hm hx hwf
          go_wp2
          go_roundw
          case rel => exact ⟨j + 1, by omega, by go_num, ⟨HM3.out⟩, ⟨HX3.out⟩⟩
          case measure => simp [intOf]; omega
        · obtain rfl : j = n := by omega
          have hdk : decide ((j : Int) < (j : Int)) = false := decide_eq_false (by omega)
          have HM3 := Aside0.mk (show Mid1 w _ ad ac (10 * (t + 1)) (Lt (t + 1)) from ⟨by rw [← HLS.out]; exact hm.out.hM.mono (by omega), hm.out.hT, hm.out.hb, hm.out.n1, hm.out.n2⟩)
          clear hm hx
          go_wp2
          go_roundw
          case rel => exact ⟨t + 1, by omega, by go_num, ⟨HM3.out⟩⟩
          case measure => simp [intOf]; omega
    · obtain rfl : t = 6 := by omega
      have hdj : decide (((6 : Nat) : Int) < 6) = false := rfl
      have HM2 := Aside0.mk (show MapF wr w.heap.size 60 Lc from by have := hm.out.hM; rw [Lt6] at this; exact this)
      have HB2 := Aside0.mk hm.out.hb
      clear hm
      go_wp2
      generalize hwL : wr = wL at *
      clear hwL
      go_loopw [42] (fun i w2 => ∃ k : Nat, k ≤ l.length ∧ i = .int .i64 k ∧ Aside0 (MapF w2 w.heap.size 60 Lc) ∧ Aside0 (Below w.heap.size w w2) ∧ Aside0 (∀ j, j < k → wellB (at_ l j) ((l.length : Int) - 1 - (j : Int)) = true)) (fun i _ => l.length - (intOf i).toNat)
      case atStart => exact ⟨0, by omega, rfl, ⟨HM2.out⟩, ⟨HB2.out⟩, ⟨fun j hj => by omega⟩⟩
      case round =>
        clear HM2 HB2
        obtain ⟨k, hk, rfl, hm, hb, hw⟩ := hrel
        by_cases hlt : k < l.length
        · have hdk : decide ((k : Int) < (l.length : Int)) = true := decide_eq_true (by omega)
          obtain ⟨ad2, eA, hx0, hx1, hx2, hx3⟩ := at_T28 (Kd.C_below HC.out hb.out) (k : Int) (by omega) (by omega)
          subst eA
          rw [Int.toNat_natCast] at hx0 hx1 hx2 hx3
          have hiw := HI.out (at_ l k) (at_mem l k hlt)
          rw [rd_at] at hx0 hx1 hx2 hx3
          have e1 : wrap64 ((l.length : Int) - 1) = (l.length : Int) - 1 := w64 _ (by omega) (by omega)
          have e2 : wrap64 ((l.length : Int) - 1 - (k : Int)) = (l.length : Int) - 1 - (k : Int) := w64 _ (by omega) (by omega)
          have HW := Aside0.mk (fun (W : World) (hM : MapF W w.heap.size 60 Lc) => well_c hM (at_ l k) ((l.length : Int) - 1 - (k : Int)) hiw.2.2.2 hiw.1)
          have HF1 := Aside0.mk (first_at l k hlt hw.out)
          have HW1 := Aside0.mk (show wellB (at_ l k) ((l.length : Int) - 1 - (k : Int)) = true → ∀ j, j < k + 1 → wellB (at_ l j) ((l.length : Int) - 1 - (j : Int)) = true from fun h j hj => by
            by_cases e : j = k
            · rw [e]; exact h
            · exact hw.out j (by omega))
          have HMx := Aside0.mk (fun (o : Obj) => (⟨hm.out.below (below_alloc (Below.refl _ _) o), below_alloc hb.out o⟩ : MapF (World.alloc _ o) w.heap.size 60 Lc ∧ Below w.heap.size w (World.alloc _ o)))
          generalize hwe : wellB (at_ l k) ((l.length : Int) - 1 - (k : Int)) = b at *
          clear hwe
          generalize at_ l k = x at *
          clear hm hb hw hiw
          cases b
          · have HRR := Aside0.mk (show r = ((k : Int), 51) by rw [← HR.out, HF1.out rfl]; rfl)
            go_wp2_with (go_at_call 129; refine (HW.out _ (HMx.out _).1).mono ?_; rintro e w3 ⟨rfl, hb3⟩; have HB3 := Aside0.mk (below_step (HMx.out _).2 hb3); clear hb3)
            rw [HRR.out]
            go_ret2
            exact ⟨rfl, HB3.out⟩
          · have HW2 := Aside0.mk (HW1.out rfl)
            go_wp2_with (go_at_call 129; refine (HW.out _ (HMx.out _).1).mono ?_; rintro e w3 ⟨rfl, hb3⟩; have HB3 := Aside0.mk (below_step (HMx.out _).2 hb3); have HM3 := Aside0.mk ((HMx.out _).1.below hb3); clear hb3)
            refine ⟨⟨_, _, _, _, _, _, _, _, _, _, _, _, _, _, _, _, _, _, _, _, ?rel, rfl⟩, ?measure⟩
            case rel => exact ⟨k + 1, by omega, by go_num, ⟨HM3.out⟩, ⟨HB3.out⟩, ⟨HW2.out⟩⟩
            case measure => simp [intOf]; omega
        · obtain rfl : k = l.length := by omega
          have hdk : decide (((l.length : Nat) : Int) < (l.length : Int)) = false := decide_eq_false (by omega)
          have HRR := Aside0.mk (show r = (0, 0) by rw [← HR.out, first_all l hw.out]; rfl)
          clear hm hw
          go_wp2
          rw [HRR.out]
          go_ret2
          exact ⟨rfl, hb.out⟩
end Go.Proofs.Ytefkhcijgiagdaa.HCk
end
section
namespace Go.Proofs.Ytefkhcijgiagdaa.HCk
open Go.RowKit Go.Proofs.YtefkhcijgiagdaaW.PrintWords Go.Proofs.YtefkhcijgiagdaaW.PrintLast Go.Proofs.YtefkhcijgiagdaaW.PrintMore Go.Proofs.Ytefkhcijgiagdaa.HKnown Go.Proofs.Ytefkhcijgiagdaa.I1 Go.Proofs.Ytefkhcijgiagdaa.QVm Go.Proofs.Ytefkhcijgiagdaa.QLe Go.Proofs.Ytefkhcijgiagdaa.QCheck Go.Proofs.Ytefkhcijgiagdaa.K0
set_option linter.unusedVariables false
set_option linter.unusedSimpArgs false
set_option maxRecDepth 100000
attribute [local go_sem] max2_int min2_int max_two min_two IntKind.wrap_u32
def bRow (xs : List Bool) : Obj := .cells (xs.map Value.bool).toArray 4 (0, 0)
theorem bRow_cell {w : World} {g : Nat} {xs : List Bool} (h : w.heap[g]? = some (bRow xs)) (j : Nat) (hj : j < xs.length) : w.cell? ⟨g, j, none⟩ = some (.bool (xs.getD j false)) := by
  rw [blk_cell h j]
  simp [hj]
theorem bRow_free {w : World} {g : Nat} {xs : List Bool} (h : w.heap[g]? = some (bRow xs)) (j : Nat) : w.frozen? ⟨g, j, none⟩ = false := blk_frozen h j
theorem bRow_set {w : World} {g : Nat} {xs : List Bool} (h : w.heap[g]? = some (bRow xs)) (j : Nat) (b : Bool) : (w.setCell ⟨g, j, none⟩ (.bool b)).heap[g]? = some (bRow (xs.set j b)) := by
  rw [blk_set h j (.bool b)]
  unfold bRow
  congr 2
  simp [List.map_set]
def f16 : List Bool := List.replicate 16 false
theorem info4 : (Try.prog.info? 4).map (fun i => (i.zero, i.size, i.bytes)) = some (some (.bool false), 1, 1) := by kernel_rfl
theorem made_bools (n : Nat) : madeCells #[Value.bool false] n = ((List.replicate n false).map Value.bool).toArray := by
  apply Array.ext'
  simp only [madeCells, List.map_replicate]
  apply List.ext_getElem
  · simp
  · intro i h1 h2
    simp [Nat.mod_one]
theorem make16 (W : World) : (Instr.makeSlice 120 (.int .i64 16) (.int .i64 16)).run Try.prog W = .ok (.slice (some ⟨W.heap.size, 0, none⟩) 16 16) (W.alloc (bRow f16)) := by
  have h := run_make_row' (P := Try.prog) 120 4 (.bool false) 1 Try.underlying120 info4 rfl .i64 .i64 16 (by decide) (by decide) W
  rw [made_bools] at h
  exact h
def joinP (a b : List Bool) (j : Nat) : List Bool := (List.zipWith (· && ·) a b).take j ++ List.replicate (16 - j) false
theorem joinP_zero (a b : List Bool) : joinP a b 0 = f16 := by simp [joinP, f16]
theorem joinP_all (a b : List Bool) (ha : a.length = 16) (hb : b.length = 16) : joinP a b 16 = List.zipWith (· && ·) a b := by
  unfold joinP
  rw [List.take_of_length_le (by rw [List.length_zipWith, ha, hb]; decide)]
  simp
theorem joinP_set (a b : List Bool) (ha : a.length = 16) (hb : b.length = 16) (j : Nat) (hj : j < 16) : (joinP a b j).set j (a.getD j false && b.getD j false) = joinP a b (j + 1) := by
  have hz : (List.zipWith (· && ·) a b).length = 16 := by rw [List.length_zipWith, ha, hb]; rfl
  have hg := zip_getD a b j (by rw [ha, hb]) (by omega)
  unfold joinP
  generalize List.zipWith (· && ·) a b = z at hz hg ⊢
  rw [← hg, List.set_append_right _ _ (by rw [List.length_take, hz]; omega), List.length_take, hz, show min j 16 = j by omega, Nat.sub_self, show 16 - j = (16 - (j + 1)) + 1 by omega, List.replicate_succ, List.set_cons_zero, List.take_succ_eq_append_getElem (by omega), List.append_assoc, List.getD_eq_getElem?_getD, List.getElem?_eq_getElem (by omega)]
  rfl
theorem joinP_len (a b : List Bool) (ha : a.length = 16) (hb : b.length = 16) (j : Nat) (hj : j ≤ 16) : (joinP a b j).length = 16 := by
  unfold joinP
  rw [List.length_append, List.length_take, List.length_zipWith, ha, hb, List.length_replicate]; omega
theorem join_nil (w : World) (A : Option Addr) (n c : Nat) : Calls Try.prog 102 #[.slice none 0 0, .slice A n c] w fun e w' => e = .returned (.slice A n c) ∧ w' = w := by
  have hnil := fun W => Lib.run_eql_slice_nil (P := Try.prog) W 120 4 none 0 0 0 0 Try.underlying120
  go_enter Try.func102, Try.ntmps102
  go_wp2
  go_ret
  exact ⟨rfl, rfl⟩
set_option maxHeartbeats 2000000 in
theorem join_c {w : World} {ada adb : Addr} {a b : List Bool} {ca cb : Nat} (ha : a.length = 16) (hb : b.length = 16) (hca : ∀ j, j < 16 → w.cell? (ada.add j) = some (.bool (a.getD j false))) (hcb : ∀ j, j < 16 → w.cell? (adb.add j) = some (.bool (b.getD j false))) :
    Calls Try.prog 102 #[.slice (some ada) 16 ca, .slice (some adb) 16 cb] w fun e w' => e = .returned (.slice (some ⟨w.heap.size, 0, none⟩) 16 16) ∧ w'.heap[w.heap.size]? = some (bRow (List.zipWith (· && ·) a b)) ∧ Below w.heap.size w w' := by
  have hnil := fun W => Lib.run_eql_slice_nil (P := Try.prog) W 120 4 (some ada) 16 ca 0 0 Try.underlying120
  have hmk := make16
  have HA := Aside0.mk hca
  have HB := Aside0.mk hcb
  have HL := Aside0.mk (joinP_len a b ha hb)
  have HS := Aside0.mk (joinP_set a b ha hb)
  have HE := Aside0.mk (joinP_all a b ha hb)
  have H0 := Aside0.mk (joinP_zero a b)
  clear hca hcb ha hb
  have HN := Aside0.mk (heap_alloc_new w (bRow f16))
  go_enter Try.func102, Try.ntmps102
  go_wp2
  go_loopw [13] (fun i wr => ∃ j : Nat, j ≤ 16 ∧ i = .int .i64 j ∧ Aside0 (wr.heap[w.heap.size]? = some (bRow (joinP a b j))) ∧ Aside0 (Below w.heap.size w wr)) (fun i _ => 16 - (intOf i).toNat)
  case atStart => exact ⟨0, by omega, rfl, ⟨by rw [H0.out]; exact HN.out⟩, ⟨below_alloc (Below.refl _ _) _⟩⟩
  case round =>
    clear HN H0
    obtain ⟨j, hj, rfl, hx, hb⟩ := hrel
    by_cases hlt : j < 16
    · have hdj : decide ((j : Int) < 16) = true := decide_eq_true (by omega)
      have kc := bRow_cell hx.out j (by rw [HL.out j hj]; exact hlt)
      have kf := bRow_free hx.out j
      have ka := pw_cell_below hb.out (HA.out j hlt)
      have kb := pw_cell_below hb.out (HB.out j hlt)
      have HJ := Aside0.mk (HS.out j hlt)
      have HX1 := Aside0.mk (fun b => bRow_set hx.out j b)
      have HB1 := Aside0.mk (fun v => hb.out.setCell (p := ⟨w.heap.size, j, none⟩) (Nat.le_refl _) v)
      clear hx hb
      generalize a.getD j false = av at *
      generalize b.getD j false = bv at *
      generalize (joinP a b j).getD j false = cv at *
      have i0 : (0 : Int) ≤ (j : Int) := by omega
      have i1 : (j : Int) < 16 := by omega
      cases av
      · go_wp2
        go_roundw
        case rel => exact ⟨j + 1, by omega, by go_num, ⟨by rw [← HJ.out]; exact HX1.out _⟩, ⟨HB1.out _⟩⟩
        case measure => simp [intOf]; omega
      · go_wp2
        go_roundw
        case rel => exact ⟨j + 1, by omega, by go_num, ⟨by rw [← HJ.out]; exact HX1.out _⟩, ⟨HB1.out _⟩⟩
        case measure => simp [intOf]; omega
    · obtain rfl : j = 16 := by omega
      have hdj : decide (((16 : Nat) : Int) < 16) = false := rfl
      have HX := Aside0.mk (HE.out ▸ hx.out)
      clear hx
      go_wp2
      go_ret
      exact ⟨rfl, HX.out, hb.out⟩
end Go.Proofs.Ytefkhcijgiagdaa.HCk
end
section
namespace Go.Proofs.Ytefkhcijgiagdaa.HCk
open Go.RowKit Go.Proofs.YtefkhcijgiagdaaW.PrintWords Go.Proofs.YtefkhcijgiagdaaW.PrintLast Go.Proofs.YtefkhcijgiagdaaW.PrintMore Go.Proofs.Ytefkhcijgiagdaa.HKnown Go.Proofs.Ytefkhcijgiagdaa.I1 Go.Proofs.Ytefkhcijgiagdaa.QVm Go.Proofs.Ytefkhcijgiagdaa.QLe Go.Proofs.Ytefkhcijgiagdaa.QCheck Go.Proofs.Ytefkhcijgiagdaa.K0
set_option linter.unusedVariables false
set_option linter.unusedSimpArgs false
set_option maxRecDepth 100000
attribute [local go_sem] max2_int min2_int max_two min_two IntKind.wrap_u32
def rowIs (w : World) (B : Nat) (v : Value) (row : List Bool) : Prop :=
  (row = [] ∧ v = .slice none 0 0) ∨ (row.length = 16 ∧ ∃ g c, v = .slice (some ⟨g, 0, none⟩) 16 c ∧ Kd.R Kd.bool 4 w B (fun _ => True) v row)
theorem rowIs.below {w w' : World} {B : Nat} {v : Value} {row : List Bool} (h : rowIs w B v row) (hb : Below w.heap.size w w') : rowIs w' B v row := by
  rcases h with h | ⟨h, g, c, e, hR⟩
  · exact .inl h
  · exact .inr ⟨h, g, c, e, Kd.R_below hR hb⟩
theorem R_of_block {w : World} {B g : Nat} {row : List Bool} (hB : B ≤ g) (h : w.heap[g]? = some (bRow row)) (hl : row.length ≤ 1000000) : Kd.R Kd.bool 4 w B (fun _ => True) (.slice (some ⟨g, 0, none⟩) row.length row.length) row := by
  refine ⟨fun _ _ => trivial, row.map Value.bool, ⟨by simp [Kd.bool, Kd.scalar], .inr ⟨g, row.length, _, rfl, hB, h, Nat.le_refl _, by unfold maxLen; omega, by simp [Kd.bool, Kd.scalar], by show List.take (row.length * 1) (row.map Value.bool) = _; rw [Nat.mul_one]; exact List.take_of_length_le (by simp)⟩⟩, by simp [Kd.bool, Kd.scalar], fun j p hj => ?_⟩
  have hjl : j < row.length := by
    rcases Nat.lt_or_ge j row.length with h | h
    · exact h
    · rw [List.getElem?_eq_none h] at hj; cases hj
  show List.take 1 (List.drop (j * 1) (row.map Value.bool)) = [Value.bool p]
  rw [Nat.mul_one, ← List.map_drop, ← List.map_take, List.drop_eq_getElem_cons hjl]
  rw [List.getElem?_eq_getElem hjl] at hj
  injection hj with hj
  simp [hj]
theorem R_of_own {w : World} {B : Nat} {v : Value} {row : List Bool} (h : w.ownsRow B 4 1 v row.length (row.map Value.bool)) : Kd.R Kd.bool 4 w B (fun _ => True) v row := by
  refine ⟨fun _ _ => trivial, row.map Value.bool, h, by simp [Kd.bool, Kd.scalar], fun j p hj => ?_⟩
  have hjl : j < row.length := by
    rcases Nat.lt_or_ge j row.length with h | h
    · exact h
    · rw [List.getElem?_eq_none h] at hj; cases hj
  show List.take 1 (List.drop (j * 1) (row.map Value.bool)) = [Value.bool p]
  rw [Nat.mul_one, ← List.map_drop, ← List.map_take, List.drop_eq_getElem_cons hjl]
  rw [List.getElem?_eq_getElem hjl] at hj
  injection hj with hj
  simp [hj]
theorem rowIs.of_block {w : World} {B g : Nat} {row : List Bool} (hB : B ≤ g) (h : w.heap[g]? = some (bRow row)) (hl : row.length = 16) : rowIs w B (.slice (some ⟨g, 0, none⟩) 16 16) row := by
  have := R_of_block hB h (by omega)
  rw [hl] at this
  exact .inr ⟨hl, g, 16, rfl, this⟩
theorem row_cell {w : World} {B g c : Nat} {row : List Bool} (hl : row.length = 16) (h : Kd.R Kd.bool 4 w B (fun _ => True) (.slice (some ⟨g, 0, none⟩) 16 c) row) (j : Nat) (hj : j < 16) : w.cell? ⟨g, j, none⟩ = some (.bool (row.getD j false)) ∧ w.frozen? ⟨g, j, none⟩ = false := by
  have := Kd.R_celln false h (j : Int) (by omega) (by omega)
  rw [Int.toNat_natCast] at this
  have e : rdOf false row (j : Int) = row.getD j false := by unfold rdOf; rw [Int.toNat_natCast]
  rw [e] at this
  exact this
def RowsAt (w : World) (B ob : Nat) (rows : List (List Bool)) : Prop :=
  ∃ rv : List Value, w.heap[ob]? = some (.cells rv.toArray 120 (0, 0)) ∧ rv.length = rows.length ∧ ∀ j, j < rows.length → rowIs w B (rv.getD j undef) (rows.getD j [])
theorem RowsAt.below {w w' : World} {B ob : Nat} {rows : List (List Bool)} (h : RowsAt w B ob rows) (hb : Below w.heap.size w w') : RowsAt w' B ob rows := by
  obtain ⟨rv, h1, h2, h3⟩ := h
  exact ⟨rv, blk_below h1 hb, h2, fun j hj => (h3 j hj).below hb⟩
theorem RowsAt.cell {w : World} {B ob : Nat} {rows : List (List Bool)} (h : RowsAt w B ob rows) (j : Nat) (hj : j < rows.length) : ∃ v, w.cell? ⟨ob, j, none⟩ = some v ∧ rowIs w B v (rows.getD j []) ∧ w.frozen? ⟨ob, j, none⟩ = false := by
  obtain ⟨rv, h1, h2, h3⟩ := h
  refine ⟨rv.getD j undef, ?_, h3 j hj, blk_frozen h1 j⟩
  rw [blk_cell h1 j]
  simp [show j < rv.length by omega]
theorem RowsAt.set {w : World} {B ob : Nat} {rows : List (List Bool)} (h : RowsAt w B ob rows) (j : Nat) {v : Value} {row : List Bool} (hv : rowIs w B v row) : RowsAt (w.setCell ⟨ob, j, none⟩ v) B ob (rows.set j row) := by
  obtain ⟨rv, h1, h2, h3⟩ := h
  have keep : ∀ {u : Value} {r : List Bool}, rowIs w B u r → rowIs (w.setCell ⟨ob, j, none⟩ v) B u r := by
    intro u r hr
    rcases hr with hr | ⟨hr, g, c, e, hR⟩
    · exact .inl hr
    · exact .inr ⟨hr, g, c, e, Kd.R_set hR h1 (by decide) j v⟩
  refine ⟨rv.set j v, by rw [blk_set h1 j v]; simp, by simp [h2], fun i hi => ?_⟩
  rw [List.length_set] at hi
  by_cases e : j = i
  · subst e
    rw [getD_set_same _ _ _ _ (by omega), getD_set_same _ _ _ _ hi]
    exact keep hv
  · rw [getD_set_other _ _ _ _ _ e, getD_set_other _ _ _ _ _ e]
    exact keep (h3 i hi)
theorem info120 : (Try.prog.info? 120).map (fun i => (i.zero, i.size, i.bytes)) = some (some (.slice none 0 0), 1, 24) := by kernel_rfl
def nilObj (n : Nat) : Obj := .cells (List.replicate n (Value.slice none 0 0)).toArray 120 (0, 0)
theorem made_nils (n : Nat) : madeCells #[Value.slice none 0 0] n = (List.replicate n (Value.slice none 0 0)).toArray := by
  apply Array.ext'
  simp only [madeCells]
  apply List.ext_getElem
  · simp
  · intro i h1 h2
    simp [Nat.mod_one]
theorem makeN (n : Nat) (hn : n ≤ 100000) (W : World) : (Instr.makeSlice 57 (.int .i64 (n : Int)) (.int .i64 (n : Int))).run Try.prog W = .ok (.slice (some ⟨W.heap.size, 0, none⟩) n n) (W.alloc (nilObj n)) := by
  have h := run_make_row' (P := Try.prog) 57 120 (.slice none 0 0) 24 Try.underlying57 info120 rfl .i64 .i64 n (by omega) (by omega) W
  rw [made_nils] at h
  exact h
theorem rows_made (W : World) (B n : Nat) : RowsAt (W.alloc (nilObj n)) B W.heap.size (List.replicate n []) := by
  refine ⟨List.replicate n (.slice none 0 0), heap_alloc_new W (nilObj n), by simp, fun j hj => .inl ⟨?_, ?_⟩⟩
  · simp at hj ⊢; simp [hj]
  · simp at hj ⊢; simp [hj]
theorem cells_len (l : List S28) : ∀ k, (cellsL l k).length = l.length := by
  intro k
  induction k with
  | zero => simp [cellsL]
  | succ k ih =>
    show (stepL (cellsL l k) k (at_ l k)).length = _
    unfold stepL
    split
    · exact ih
    · rw [← ih]
      generalize nowL (at_ l k) ((cellsL l k).getD k []) = now
      generalize cellsL l k = rows
      generalize folL (at_ l k) = ds
      induction ds generalizing rows with
      | nil => rfl
      | cons d ds ihd => rw [List.foldl_cons, ihd, put_len]
theorem bits7_all : ∀ c : Fin 256, bits .and .i64 (c.val : Int) 7 = (c.val : Int) % 8 := by decide +kernel
theorem bits_known7 (c : Int) (h : knownB c = true) : bits .and .i64 c 7 = c % 8 := by
  obtain ⟨a, b⟩ := known_range h
  obtain ⟨n, rfl⟩ : ∃ n : Nat, c = n := ⟨c.toNat, by omega⟩
  exact bits7_all ⟨n, by omega⟩
theorem behind_any (i : S28) (hk : knownB i.f0 = true) (h3 : U i.f3) (h1 : 0 ≤ i.f1 ∧ i.f1 ≤ 255) (h2 : 0 ≤ i.f2 ∧ i.f2 ≤ 255) (w : World) :
    Calls Try.prog 101 #[.agg #[.int .i64 i.f0, .int .i64 i.f1, .int .i64 i.f2, .int .u32 i.f3]] w fun e w' => ∃ v, e = .returned v ∧ Kd.R (Kd.int .i64) 3 w' w.heap.size (fun _ => True) v ((folL i).map fun d : Nat => (d : Int)) ∧ Below w.heap.size w w' := by
  refine check_behind.calls i.f0 i.f1 i.f2 i.f3 _ w ?_
  unfold check_behind.f check_returns.f folL retB
  have a3 : wrap64 i.f3 = i.f3 := w64 _ (by omega) (by omega)
  have b3 : wrap64 (i.f3 + 1) = i.f3 + 1 := w64 _ (by omega) (by omega)
  have b1 : wrap64 (i.f1 + 1) = i.f1 + 1 := w64 _ (by omega) (by omega)
  have b2 : wrap64 (i.f2 + 1) = i.f2 + 1 := w64 _ (by omega) (by omega)
  have hb := (bits_known7 i.f0 hk)
  by_cases e6 : i.f0 = 6
  · rw [if_pos e6, decide_eq_true (.inl e6)]; rfl
  rw [if_neg e6]
  by_cases e22 : i.f0 = 22
  · rw [e22]; rfl
  have e0 : (i.f0 == 22) = false := beq_eq_false_iff_ne.2 e22
  rw [e0, decide_eq_false (by omega)]
  simp only [Option.bind_some, Bool.false_eq_true, if_false]
  by_cases e5 : i.f0 = 5
  · rw [if_pos e5, if_pos e5, a3, b3]
    simp only [List.map_cons, List.map_nil]
    rw [show ((i.f3.toNat + 1 : Nat) : Int) = i.f3 + 1 by omega]
  rw [if_neg e5, if_neg e5, hb]
  by_cases e8 : i.f0 % 8 = 5
  · rw [if_pos e8, if_pos e8, b1, b2]
    simp only [List.map_cons, List.map_nil]
    rw [show ((i.f1.toNat + 1 : Nat) : Int) = i.f1 + 1 by omega, show ((i.f2.toNat + 1 : Nat) : Int) = i.f2 + 1 by omega]
  · rw [if_neg e8, if_neg e8]; rfl
theorem stepL_nil {rows : List (List Bool)} {k : Nat} {i : S28} (h : rows.getD k [] = []) : stepL rows k i = rows := by unfold stepL; rw [if_pos h]
theorem stepL_some {rows : List (List Bool)} {k : Nat} {i : S28} (h : rows.getD k [] ≠ []) : stepL rows k i = (folL i).foldl (fun o d => putL o (k + d) (nowL i (rows.getD k []))) rows := by unfold stepL; rw [if_neg h]
theorem cells_bad {w : World} {A0 : Option Addr} {c0 : Nat} {l : List S28} (hC : Kd.C k28 w A0 l.length l) (hc0 : l.length ≤ c0) (hlen : l.length ≤ 100000) (hi : ∀ i ∈ l, IW i) (hb : (allV l).2 ≠ 0) :
    Calls Try.prog 56 #[.slice A0 l.length c0] w fun e w' => e = .returned (.tuple #[.slice none 0 0, .int .i64 (allV l).2]) ∧ Below w.heap.size w w' := by
  have h := all_c hC hc0 hlen hi
  have HH := Aside0.mk h
  generalize (allV l).2 = b at *
  generalize (allV l).1 = a at *
  have d0 : (b != 0) = true := bne_iff_ne.2 hb
  clear h hb hC hi
  go_enter Try.func56, Try.ntmps56
  go_wp2
  go_step3
  go_wp2_with (go_at_call 99; refine HH.out.mono ?_; rintro e w1 ⟨rfl, hb1⟩; have HB1 := Aside0.mk hb1; clear hb1)
  try rw [Exit.noGoto_ret]
  go_ret2
  exact ⟨rfl, HB1.out⟩
theorem folL_len (i : S28) : (folL i).length ≤ 2 := by
  unfold folL
  repeat' split
  all_goals simp
theorem take_fold {α β : Type} (f : β → α → β) (b : β) (ds : List α) (j : Nat) (hj : j < ds.length) : (ds.take (j + 1)).foldl f b = f ((ds.take j).foldl f b) ds[j] := by
  rw [List.take_succ_eq_append_getElem hj, List.foldl_append]; rfl
theorem fold_len (k : Nat) (now : List Bool) : ∀ (ds : List Nat) (rows : List (List Bool)), (ds.foldl (fun o d => putL o (k + d) now) rows).length = rows.length := by
  intro ds
  induction ds with
  | nil => intro rows; rfl
  | cons d ds ih => intro rows; rw [List.foldl_cons, ih, put_len]
theorem putL_nil {rows : List (List Bool)} {j : Nat} {now : List Bool} (h : rows.getD j [] = []) : putL rows j now = rows.set j now := by unfold putL joinL; rw [if_pos h]
theorem putL_some {rows : List (List Bool)} {j : Nat} {now : List Bool} (h : rows.getD j [] ≠ []) : putL rows j now = rows.set j (List.zipWith (· && ·) (rows.getD j []) now) := by unfold putL joinL; rw [if_neg h]
theorem nowL_st {i : S28} {row : List Bool} (h : i.f0 = 2 ∨ i.f0 = 3) : nowL i row = row.set i.f3.toNat true := by unfold nowL stB; rw [if_pos (decide_eq_true h)]
theorem nowL_no {i : S28} {row : List Bool} (h : ¬ (i.f0 = 2 ∨ i.f0 = 3)) : nowL i row = row := by unfold nowL stB; rw [if_neg (by rw [decide_eq_false h]; decide)]
/-- The world between two rounds. -/
structure MidC (w wr : World) (ob : Nat) (rows : List (List Bool)) : Prop where
  rows : RowsAt wr w.heap.size ob rows
  hb : Below w.heap.size w wr
  ho : w.heap.size ≤ ob
theorem MidC.below {w wr w' : World} {ob : Nat} {rows : List (List Bool)} (h : MidC w wr ob rows) (hb : Below wr.heap.size wr w') : MidC w w' ob rows := ⟨h.rows.below hb, below_step h.hb hb, h.ho⟩
theorem MidC.set {w wr : World} {ob : Nat} {rows : List (List Bool)} (h : MidC w wr ob rows) (j : Nat) {v : Value} {row : List Bool} (hv : rowIs wr w.heap.size v row) : MidC w (wr.setCell ⟨ob, j, none⟩ v) ob (rows.set j row) := ⟨h.rows.set j hv, h.hb.setCell (p := ⟨ob, j, none⟩) h.ho v, h.ho⟩
set_option maxHeartbeats 8000000 in
theorem cells_c {w : World} {A0 : Option Addr} {c0 : Nat} {l : List S28} (hC : Kd.C k28 w A0 l.length l) (hc0 : l.length ≤ c0) (hlen : l.length ≤ 100000) (hi : ∀ i ∈ l, IW i) (hb : (allV l).2 = 0) :
    Calls Try.prog 56 #[.slice A0 l.length c0] w fun e w' => ∃ ob, e = .returned (.tuple #[.slice (some ⟨ob, 0, none⟩) l.length l.length, .int .i64 0]) ∧ MidC w w' ob (cellsL l l.length) := by
  have hall := all_c hC hc0 hlen hi
  obtain ⟨hl0, _, hf⟩ := (allV_ok l).1 hb
  have hw := (first_none l).1 hf
  rw [hb] at hall
  generalize (allV l).1 = a1 at hall
  have HAL := Aside0.mk hall
  have HC := Aside0.mk hC
  have HI := Aside0.mk hi
  have HW := Aside0.mk hw
  have HWL := Aside0.mk (wellL_of l (fun i h => (hi i h).2.2.2.1) hf)
  have hu28 := Try.underlying28
  have hmN := makeN l.length hlen
  have hm16 := make16
  clear hall hC hi hb hf hw
  obtain ⟨ad0, eA0, _⟩ := at_T28 HC.out 0 (by omega) (by omega)
  subst eA0
  have H0 := Aside0.mk (show (List.replicate l.length []).set 0 f16 = cellsL l 0 from rfl)
  have hl0' : 0 < (List.replicate l.length ([] : List Bool)).length := by rw [List.length_replicate]; exact hl0
  go_enter Try.func56, Try.ntmps56
  go_wp2
  go_step3
  go_wp2_with (go_at_call 99; refine HAL.out.mono ?_; rintro e w1 ⟨rfl, hb1⟩; have HB1 := Aside0.mk hb1; clear hb1; have HM1 := Aside0.mk ((show MidC w (w1.alloc (nilObj l.length)) w1.heap.size (List.replicate l.length []) from ⟨rows_made w1 w.heap.size l.length, below_alloc HB1.out _, below_size HB1.out⟩).below (below_alloc (Below.refl _ _) (bRow f16))); obtain ⟨v0, kc0, _, kf0⟩ := HM1.out.rows.cell 0 hl0'; have HM2 := Aside0.mk (HM1.out.set 0 (v := .slice (some ⟨w1.heap.size + 1, 0, none⟩) 16 16) (rowIs.of_block (Nat.le_trans (below_size HB1.out) (Nat.le_succ _)) (by have := heap_alloc_new (w1.alloc (nilObj l.length)) (bRow f16); rw [World.size_alloc] at this; exact this) rfl)); have HM3 := Aside0.mk (show MidC w (((w1.alloc (nilObj l.length)).setCell ⟨w1.heap.size, 0, none⟩ (.slice (some ⟨w1.heap.size + 1, 0, none⟩) 16 16)).alloc (bRow f16)) w1.heap.size (cellsL l 0) from by rw [← H0.out, ← World.setCell_alloc_past _ _ _ _ (by rw [World.size_alloc]; exact Nat.lt_succ_self _)]; exact HM2.out); clear HM2 HM1)
  go_step3
  go_wp2
  generalize hob : w1.heap.size = ob at *
  clear hob kc0 kf0 H0 hl0'
  go_loopw [28] (fun i wr => ∃ k : Nat, k ≤ l.length ∧ i = .int .i64 k ∧ Aside0 (MidC w wr ob (cellsL l k))) (fun i _ => l.length - (intOf i).toNat)
  case atStart => exact ⟨0, by omega, rfl, ⟨HM3.out⟩⟩
  case round =>
    clear HM3 HB1
    obtain ⟨k, hk, rfl, hm⟩ := hrel
    by_cases hlt : k < l.length
    · have hdk : decide ((k : Int) < (l.length : Int)) = true := decide_eq_true (by omega)
      obtain ⟨ad2, eA, hx0, hx1, hx2, hx3⟩ := at_T28 (Kd.C_below HC.out hm.out.hb) (k : Int) (by omega) (by omega)
      obtain rfl := Option.some.inj eA
      clear eA
      rw [Int.toNat_natCast] at hx0 hx1 hx2 hx3
      have hiw := HI.out (at_ l k) (at_mem l k hlt)
      have hwell := (well_iff _ _).1 (HW.out k hlt)
      rw [rd_at] at hx0 hx1 hx2 hx3
      have hkc : k < (cellsL l k).length := by rw [cells_len]; exact hlt
      obtain ⟨v, kv, hrow, _⟩ := hm.out.rows.cell k hkc
      have i0 : (0 : Int) ≤ (k : Int) := by omega
      have i1 : (k : Int) < (l.length : Int) := by omega
      have kva := fun o => pw_cell_below (below_alloc (Below.refl _ _) o) kv
      rcases hrow with ⟨hnil, rfl⟩ | ⟨h16, g, c, rfl, hR⟩
      · have hnl := fun W => Lib.run_eql_slice_nil (P := Try.prog) W 120 4 none 0 0 0 0 Try.underlying120
        have HM2 := Aside0.mk (show ∀ o, MidC w (World.alloc _ o) ob (cellsL l (k + 1)) from fun o => by
          rw [show cellsL l (k + 1) = cellsL l k from stepL_nil hnil]
          exact hm.out.below (below_alloc (Below.refl _ _) o))
        clear hm hiw hwell hnil
        generalize at_ l k = x at *
        go_wp2
        go_roundw
        case rel => exact ⟨k + 1, by omega, by go_num, ⟨HM2.out _⟩⟩
        case measure => simp [intOf]; omega
      · have hnl := fun W => Lib.run_eql_slice_nil (P := Try.prog) W 120 4 (some ⟨g, 0, none⟩) 16 c 0 0 Try.underlying120
        obtain ⟨inf4, hi4, hzz⟩ := Option.map_eq_some_iff.1 info4
        simp only [Prod.mk.injEq] at hzz
        obtain ⟨hz0, hz1, hz2⟩ := hzz
        have hne : (cellsL l k).getD k [] ≠ [] := fun e => by rw [e] at h16; simp at h16
        have HST := Aside0.mk (show cellsL l (k + 1) = _ from stepL_some hne)
        have HBX := Aside0.mk (heap_alloc_new wr (.cells #[.int .i64 (at_ l k).f0, .int .i64 (at_ l k).f1, .int .i64 (at_ l k).f2, .int .u32 (at_ l k).f3] 28))
        have HM2 := Aside0.mk (hm.out.below (below_alloc (Below.refl _ _) (.cells #[.int .i64 (at_ l k).f0, .int .i64 (at_ l k).f1, .int .i64 (at_ l k).f2, .int .u32 (at_ l k).f3] 28)))
        have HR2 := Aside0.mk (Kd.R_below hR (below_alloc (Below.refl _ _) (.cells #[.int .i64 (at_ l k).f0, .int .i64 (at_ l k).f1, .int .i64 (at_ l k).f2, .int .u32 (at_ l k).f3] 28)))
        have HSTB := Aside0.mk (HWL.out.st k hlt)
        have HFOL := Aside0.mk (HWL.out.fol k hlt)
        have HBEH := Aside0.mk (fun W => behind_any (at_ l k) hwell.kn hiw.2.2.2 ⟨hwell.t0, hwell.t1⟩ ⟨hwell.f0, hwell.f1⟩ W)
        generalize hrw : (cellsL l k).getD k [] = row at *
        generalize hxx : at_ l k = x at *
        have HRW := Aside0.mk hrw
        clear hm hiw hwell hrw hxx hR hne
        go_wp2
        generalize hw2 : wr.alloc (.cells #[.int .i64 x.f0, .int .i64 x.f1, .int .i64 x.f2, .int .u32 x.f3] 28) = w2 at *
        have kg := HM2.out.rows.cell k hkc
        obtain ⟨v2, kv2, _, _⟩ := kg
        have kw2 : w2.cell? ⟨ob, k, none⟩ = some (.slice (some ⟨g, 0, none⟩) 16 c) := by rw [← hw2]; exact kva _
        clear kva kv2
        have HNEWS := Aside0.mk (show ∀ j u, (row.map Value.bool)[j]? = some u → w2.drew.cell? ((⟨g, 0, none⟩ : Addr).add j) = some u from fun j u hj => by
          rw [add0]
          have hjl : j < row.length := by
            rcases Nat.lt_or_ge j row.length with h | h
            · exact h
            · rw [List.getElem?_eq_none (by simpa using h)] at hj; cases hj
          have := (row_cell h16 HR2.out j (by omega)).1
          rw [List.getElem?_map, List.getElem?_eq_getElem hjl] at hj
          injection hj with hj
          subst hj
          refine this.trans ?_
          rw [List.getD_eq_getElem?_getD, List.getElem?_eq_getElem hjl]; rfl)
        go_still_tail 9, (by kernel_rfl)
        change wpList _ _ _ _ _ w2.drew
        refine wpList_append_grows w2.drew rfl (.tmp 42) (.tmp 46) 120 rfl 4 inf4 (.bool false) 1 1 Try.underlying120 hi4 hz0 hz1 hz2 rfl (by decide) (some ⟨g, 0, none⟩) 0 0 [] rfl (fun h => by cases h) rfl (fun b hb j u hj => by simp at hj) ⟨g, 0, none⟩ 16 c (row.map Value.bool) rfl (by rw [List.length_map, h16]) HNEWS.out (fun u hu => by obtain ⟨b, _, rfl⟩ := List.mem_map.1 hu; rfl) (by decide) (by decide) (by decide) ?_
        intro v1 w3 hown hg3
        have hown' : w3.ownsRow w2.heap.size 4 1 v1 row.length (row.map Value.bool) := by rw [h16]; simpa using hown
        have hR3 := R_of_own hown'
        obtain ⟨g1, c1, rfl, hg1, _⟩ := Kd.R_form hR3 (by omega)
        rw [h16] at hR3
        have HB3 := Aside0.mk (show Below w2.heap.size w2 w3 from ((Below.refl w2.heap.size w2).drew).grown hg3 (Nat.le_refl _) (by simp))
        have HR3 := Aside0.mk hR3
        have HM3 := Aside0.mk (HM2.out.below HB3.out)
        have HBX3 := Aside0.mk (blk_below HBX.out HB3.out)
        have kb3 := blk_cell HBX3.out
        have HG1 := Aside0.mk hg1
        have HWL2 := Aside0.mk (show w.heap.size ≤ w2.heap.size from below_size HM2.out.hb)
        rw [h16]
        clear hown hown' hR3 hg3 HNEWS kw2 hnl hi4 hz0 hz1 hz2 hg1
        have kb0 := kb3 0
        have kb1 := kb3 1
        have kb2 := kb3 2
        have kb4 := kb3 3
        clear kb3
        have HNL := Aside0.mk (show (nowL x row).length = 16 from by unfold nowL; split <;> simp [h16])
        rcases (show x.f0 = 2 ∨ x.f0 = 3 ∨ (x.f0 ≠ 2 ∧ x.f0 ≠ 3) by omega) with e2 | e3 | ⟨n2, n3⟩
        focus
          have hst := HSTB.out (by unfold stB; exact decide_eq_true (.inl e2))
          have ix0 := hst.1
          have ix1 := hst.2
          obtain ⟨kn, kf⟩ := row_cell h16 HR3.out x.f3.toNat (by omega)
          have HW4 := Aside0.mk (show MidC w (w3.setCell ⟨g1, x.f3.toNat, none⟩ (.bool true)) ob (cellsL l k) ∧ Kd.R Kd.bool 4 (w3.setCell ⟨g1, x.f3.toNat, none⟩ (.bool true)) w2.heap.size (fun _ => True) (.slice (some ⟨g1, 0, none⟩) 16 c1) (nowL x row) from
            ⟨HM2.out.below (HB3.out.setCell (p := ⟨g1, x.f3.toNat, none⟩) HG1.out _), by rw [nowL_st (.inl e2)]; exact Kd.R_putn HR3.out x.f3 true⟩)
          have d2 : (x.f0 == 2) = true := beq_iff_eq.2 e2
          have kz := Ne.symm (show wr.heap.size ≠ g1 from by have := HG1.out; have e : w2.heap.size = wr.heap.size + 1 := by rw [← hw2, World.size_alloc]
                                                             omega)
          clear hst e2
          generalize (nowL x row) = now at *
          go_wp2_with (go_at_call 101; refine (HBEH.out _).mono ?_; rintro e w5 ⟨v5, rfl, ho5, hb5⟩; have HM5 := Aside0.mk (HW4.out.1.below hb5); have HR5 := Aside0.mk (Kd.R_below HW4.out.2 hb5); clear hb5; obtain ⟨A5, c5, rfl⟩ := Kd.R_slice ho5; have HO5 := Aside0.mk (Kd.R_lower ho5 (below_size HW4.out.1.hb)); clear ho5 HW4)
        rotate_left
        focus
          have hst := HSTB.out (by unfold stB; exact decide_eq_true (.inr e3))
          have ix0 := hst.1
          have ix1 := hst.2
          obtain ⟨kn, kf⟩ := row_cell h16 HR3.out x.f3.toNat (by omega)
          have HW4 := Aside0.mk (show MidC w (w3.setCell ⟨g1, x.f3.toNat, none⟩ (.bool true)) ob (cellsL l k) ∧ Kd.R Kd.bool 4 (w3.setCell ⟨g1, x.f3.toNat, none⟩ (.bool true)) w2.heap.size (fun _ => True) (.slice (some ⟨g1, 0, none⟩) 16 c1) (nowL x row) from
            ⟨HM2.out.below (HB3.out.setCell (p := ⟨g1, x.f3.toNat, none⟩) HG1.out _), by rw [nowL_st (.inr e3)]; exact Kd.R_putn HR3.out x.f3 true⟩)
          have d2 : (x.f0 == 2) = false := beq_eq_false_iff_ne.2 (by omega)
          have d3 : (x.f0 == 3) = true := beq_iff_eq.2 e3
          have kz := Ne.symm (show wr.heap.size ≠ g1 from by have := HG1.out; have e : w2.heap.size = wr.heap.size + 1 := by rw [← hw2, World.size_alloc]
                                                             omega)
          clear hst e3
          generalize (nowL x row) = now at *
          go_wp2_with (go_at_call 101; refine (HBEH.out _).mono ?_; rintro e w5 ⟨v5, rfl, ho5, hb5⟩; have HM5 := Aside0.mk (HW4.out.1.below hb5); have HR5 := Aside0.mk (Kd.R_below HW4.out.2 hb5); clear hb5; obtain ⟨A5, c5, rfl⟩ := Kd.R_slice ho5; have HO5 := Aside0.mk (Kd.R_lower ho5 (below_size HW4.out.1.hb)); clear ho5 HW4)
        rotate_left
        focus
          have HW4 := Aside0.mk (show MidC w w3 ob (cellsL l k) ∧ Kd.R Kd.bool 4 w3 w2.heap.size (fun _ => True) (.slice (some ⟨g1, 0, none⟩) 16 c1) (nowL x row) from
            ⟨HM3.out, by rw [nowL_no (by omega)]; exact HR3.out⟩)
          have d2 : (x.f0 == 2) = false := beq_eq_false_iff_ne.2 n2
          have d3 : (x.f0 == 3) = false := beq_eq_false_iff_ne.2 n3
          clear n2 n3
          generalize (nowL x row) = now at *
          go_wp2_with (go_at_call 101; refine (HBEH.out _).mono ?_; rintro e w5 ⟨v5, rfl, ho5, hb5⟩; have HM5 := Aside0.mk (HW4.out.1.below hb5); have HR5 := Aside0.mk (Kd.R_below HW4.out.2 hb5); clear hb5; obtain ⟨A5, c5, rfl⟩ := Kd.R_slice ho5; have HO5 := Aside0.mk (Kd.R_lower ho5 (below_size HW4.out.1.hb)); clear ho5 HW4)
        rotate_left
        all_goals
          clear kb0 kb1 kb2 kb4
          clear HM3 HR3 HBX3 HBX HR2 HM2
          have hdl := folL_len x
          generalize hds : folL x = ds at *
          have HFO := Aside0.mk HFOL.out
          clear HFOL hds
          rw [List.length_map] at HO5
          go_loopw [63] (fun i w6 => ∃ j : Nat, j ≤ ds.length ∧ i = .int .i64 j ∧ Aside0 (MidC w w6 ob ((ds.take j).foldl (fun o d => putL o (k + d) now) (cellsL l k))) ∧ Aside0 (Kd.R Kd.bool 4 w6 w2.heap.size (fun _ => True) (.slice (some ⟨g1, 0, none⟩) 16 c1) now) ∧ Aside0 (Kd.R (Kd.int .i64) 3 w6 w.heap.size (fun _ => True) (.slice A5 ds.length c5) (ds.map fun d : Nat => (d : Int)))) (fun i _ => ds.length - (intOf i).toNat)
          case atStart => exact ⟨0, by omega, rfl, ⟨HM5.out⟩, ⟨HR5.out⟩, ⟨HO5.out⟩⟩
          case round =>
            clear HM5 HR5 HO5
            obtain ⟨j, hj, rfl, hm6, hr6, hc6⟩ := hrel
            by_cases hltj : j < ds.length
            · have hdj : decide ((j : Int) < (ds.length : Int)) = true := decide_eq_true (by omega)
              have hcc := (Kd.R_reads' hc6.out).2.2
              rw [List.length_map] at hcc
              obtain ⟨ad6, eA6, hcell⟩ := Kd.at_int hcc (j : Int) (by omega) (by omega)
              clear hcc
              subst eA6
              rw [Int.toNat_natCast] at hcell
              have hrd : rd (ds.map fun d : Nat => (d : Int)) (j : Int) = (ds[j] : Int) := by
                unfold rd; rw [Int.toNat_natCast, List.getD_eq_getElem?_getD, List.getElem?_map, List.getElem?_eq_getElem hltj]; rfl
              rw [hrd] at hcell
              have hin := HFO.out ds[j] (List.getElem_mem hltj)
              have HTF := Aside0.mk (take_fold (fun o d => putL o (k + d) now) (cellsL l k) ds j hltj)
              have hrl : ((ds.take j).foldl (fun o d => putL o (k + d) now) (cellsL l k)).length = l.length := by rw [fold_len, cells_len]
              generalize hdd : ds[j] = d at *
              clear hdd hrd
              generalize (ds.take j).foldl (fun o d => putL o (k + d) now) (cellsL l k) = R at *
              have ht1 : k + d < l.length := hin
              have it0 : (0 : Int) ≤ (k : Int) + (d : Int) := by omega
              have it1 : (k : Int) + (d : Int) < (l.length : Int) := by omega
              obtain ⟨v', kv', hrow', kf'⟩ := hm6.out.rows.cell (k + d) (by omega)
              obtain ⟨rv, HOB0, _⟩ := hm6.out.rows
              have HOB := Aside0.mk HOB0
              clear HOB0
              have HR7 := Aside0.mk (fun v => Kd.R_set hr6.out HOB.out (by decide) (k + d) v)
              have HC7 := Aside0.mk (fun v => Kd.R_set hc6.out HOB.out (by decide) (k + d) v)
              rcases hrow' with ⟨hnil', rfl⟩ | ⟨h16', g', c', rfl, hR'⟩
              · have HM7 := Aside0.mk (hm6.out.set (k + d) (show rowIs _ w.heap.size (.slice (some ⟨g1, 0, none⟩) 16 c1) now from .inr ⟨HNL.out, g1, c1, rfl, Kd.R_lower hr6.out HWL2.out⟩))
                have HP := Aside0.mk (putL_nil (now := now) hnil')
                clear hm6 hr6 hc6 hnil'
                go_wp2_with (go_at_call 102; refine (join_nil _ _ _ _).mono ?_; rintro e w7 ⟨rfl, rfl⟩)
                go_roundw
                case rel => exact ⟨j + 1, by omega, by go_num, ⟨by rw [HTF.out, HP.out]; exact HM7.out⟩, ⟨HR7.out _⟩, ⟨HC7.out _⟩⟩
                case measure => simp [intOf]; omega
              · have HJ := Aside0.mk (join_c (w := _) (ada := ⟨g', 0, none⟩) (adb := ⟨g1, 0, none⟩) (ca := c') (cb := c1) h16' HNL.out (fun i hi => by rw [add0]; exact (row_cell h16' hR' i hi).1) (fun i hi => by rw [add0]; exact (row_cell HNL.out hr6.out i hi).1))
                have hne' : R.getD (k + d) [] ≠ [] := fun e => by rw [e] at h16'; simp at h16'
                have HP := Aside0.mk (putL_some (now := now) hne')
                have HZL := Aside0.mk (show (List.zipWith (· && ·) (R.getD (k + d) []) now).length = 16 from by rw [List.length_zipWith, h16', HNL.out]; rfl)
                have HMF := Aside0.mk (fun (W : World) (hb : Below _ _ W) => hm6.out.below hb)
                have HRF := Aside0.mk (fun (W : World) (hb : Below _ _ W) => Kd.R_below hr6.out hb)
                have HCF := Aside0.mk (fun (W : World) (hb : Below _ _ W) => Kd.R_below hc6.out hb)
                have HBF := Aside0.mk (fun (W : World) (hb : Below _ _ W) => blk_below HOB.out hb)
                have hsz := Aside0.mk (below_size hm6.out.hb)
                clear hm6 hr6 hc6 hR' h16' hne' HR7 HC7
                go_wp2_with (go_at_call 102; refine HJ.out.mono ?_; rintro e w7 ⟨rfl, hx7, hb7⟩; have HM8 := Aside0.mk ((HMF.out _ hb7).set (k + d) (rowIs.of_block hsz.out hx7 HZL.out)); have HR8 := Aside0.mk (fun v => Kd.R_set (HRF.out _ hb7) (HBF.out _ hb7) (by decide) (k + d) v); have HC8 := Aside0.mk (fun v => Kd.R_set (HCF.out _ hb7) (HBF.out _ hb7) (by decide) (k + d) v); have kf7 := blk_frozen (HBF.out _ hb7) (k + d); have kv7 := pw_cell_below hb7 kv'; clear hx7 hb7 HMF HRF HCF HBF)
                go_roundw
                case rel => exact ⟨j + 1, by omega, by go_num, ⟨by rw [HTF.out, HP.out]; exact HM8.out⟩, ⟨HR8.out _⟩, ⟨HC8.out _⟩⟩
                case measure => simp [intOf]; omega
            · obtain rfl : j = ds.length := by omega
              have hdj : decide (((ds.length : Nat) : Int) < (ds.length : Int)) = false := decide_eq_false (by omega)
              have HMZ := Aside0.mk (show MidC w _ ob (cellsL l (k + 1)) from by
                rw [HST.out]
                have := hm6.out
                rw [List.take_of_length_le (Nat.le_refl _)] at this
                exact this)
              clear hm6 hr6 hc6
              go_wp2
              go_roundw
              case rel => exact ⟨k + 1, by omega, by go_num, ⟨HMZ.out⟩⟩
              case measure => simp [intOf]; omega
    · obtain rfl : k = l.length := by omega
      have hdk : decide (((l.length : Nat) : Int) < (l.length : Int)) = false := decide_eq_false (by omega)
      have HM := Aside0.mk hm.out
      clear hm
      go_wp2
      try rw [Exit.noGoto_ret]
      go_ret2
      exact ⟨ob, rfl, HM.out⟩
end Go.Proofs.Ytefkhcijgiagdaa.HCk
end
section
namespace Go.Proofs.Ytefkhcijgiagdaa.HCk
open Go.RowKit Go.Proofs.YtefkhcijgiagdaaW.PrintWords Go.Proofs.YtefkhcijgiagdaaW.PrintLast Go.Proofs.YtefkhcijgiagdaaW.PrintMore Go.Proofs.Ytefkhcijgiagdaa.HKnown Go.Proofs.Ytefkhcijgiagdaa.I1 Go.Proofs.Ytefkhcijgiagdaa.QVm Go.Proofs.Ytefkhcijgiagdaa.QLe Go.Proofs.Ytefkhcijgiagdaa.QCheck Go.Proofs.Ytefkhcijgiagdaa.K0
set_option linter.unusedVariables false
set_option linter.unusedSimpArgs false
set_option maxRecDepth 100000
attribute [local go_sem] max2_int min2_int max_two min_two IntKind.wrap_u32
theorem find_at : ∀ (l : List S28) (rows : List (List Bool)) (m k : Nat), k < l.length → (∀ j, j < k → loadB (at_ l j) (rows.getD (m + j) []) = false) → loadB (at_ l k) (rows.getD (m + k) []) = true → findB l rows m = some (m + k) := by
  intro l
  induction l with
  | nil => intro rows m k h; simp at h
  | cons i l ih =>
    intro rows m k hk hj hb
    unfold findB
    cases k with
    | zero =>
      have hb' : loadB i (rows.getD m []) = true := hb
      rw [if_pos hb']; rfl
    | succ k =>
      have h0 : loadB i (rows.getD m []) = false := hj 0 (by omega)
      rw [if_neg (by rw [h0]; decide)]
      have := ih rows (m + 1) k (by simpa using hk) (fun j hjk => by
        have := hj (j + 1) (by omega)
        rw [show m + (j + 1) = m + 1 + j by omega] at this
        exact this) (by rw [show m + (k + 1) = m + 1 + k by omega] at hb; exact hb)
      rw [this, show m + 1 + k = m + (k + 1) by omega]
def allR2 (o : Option Nat) : Int × Int := match o with | some k => ((k : Int), 51) | none => (0, 0)
theorem checkV_bad {l : List S28} (h : (allV l).2 ≠ 0) : checkV l = allV l := by unfold checkV; rw [if_neg h]
theorem checkV_good {l : List S28} (h : (allV l).2 = 0) : checkV l = allR2 (findB l (cellsL l l.length) 0) := by unfold checkV; exact if_pos h
theorem loadB_no {i : S28} {row : List Bool} (h : ¬ (i.f0 = 96 ∨ i.f0 = 97)) : loadB i row = false := by unfold loadB; rw [decide_eq_false h]; rfl
theorem loadB_nil {i : S28} : loadB i [] = false := by unfold loadB; simp
theorem loadB_some {i : S28} {row : List Bool} (h : i.f0 = 96 ∨ i.f0 = 97) (hr : row.length = 16) : loadB i row = !row.getD i.f3.toNat false := by
  unfold loadB
  rw [decide_eq_true h, Bool.true_and]
  cases row with
  | nil => simp at hr
  | cons a row => rfl
theorem MidC.drewN {w wr : World} {ob : Nat} {rows : List (List Bool)} (h : MidC w wr ob rows) (n : Nat) : MidC w (wr.drewN n) ob rows := h.below (pw_below_drewN (Below.refl _ _) n)
theorem MidC.lower {w w1 wr : World} {ob : Nat} {rows : List (List Bool)} (h : MidC w1 wr ob rows) (hb : Below w.heap.size w w1) : MidC w wr ob rows := by
  refine ⟨?_, below_step hb h.hb, Nat.le_trans (below_size hb) h.ho⟩
  obtain ⟨rv, q1, q2, q3⟩ := h.rows
  refine ⟨rv, q1, q2, fun j hj => ?_⟩
  rcases q3 j hj with q | ⟨q, g, c, e, hR⟩
  · exact .inl q
  · exact .inr ⟨q, g, c, e, Kd.R_lower hR (below_size hb)⟩
set_option maxHeartbeats 4000000 in
theorem check_bad {w : World} {A0 : Option Addr} {c0 : Nat} {l : List S28} (hC : Kd.C k28 w A0 l.length l) (hc0 : l.length ≤ c0) (hlen : l.length ≤ 100000) (hi : ∀ i ∈ l, IW i) (hb : (allV l).2 ≠ 0) :
    Calls Try.prog 54 #[.slice A0 l.length c0] w fun e w' => e = .returned (.tuple #[.int .i64 (allV l).1, .int .i64 (allV l).2]) ∧ Below w.heap.size w w' := by
  have h := all_c hC hc0 hlen hi
  have HH := Aside0.mk h
  generalize (allV l).2 = b at *
  generalize (allV l).1 = a at *
  have d0 : (b != 0) = true := bne_iff_ne.2 hb
  clear h hb hC hi
  go_enter Try.func54, Try.ntmps54
  go_wp2_with (go_at_call 99; refine HH.out.mono ?_; rintro e w1 ⟨rfl, hb1⟩; have HB1 := Aside0.mk hb1; clear hb1)
  go_ret2
  exact ⟨rfl, HB1.out⟩
set_option maxHeartbeats 4000000 in
theorem check_c {w : World} {A0 : Option Addr} {c0 : Nat} {l : List S28} (hC : Kd.C k28 w A0 l.length l) (hc0 : l.length ≤ c0) (hlen : l.length ≤ 100000) (hi : ∀ i ∈ l, IW i) (hb : (allV l).2 = 0) :
    Calls Try.prog 54 #[.slice A0 l.length c0] w fun e w' => e = .returned (.tuple #[.int .i64 (checkV l).1, .int .i64 (checkV l).2]) ∧ Below w.heap.size w w' := by
  have hall := all_c hC hc0 hlen hi
  have HCE := Aside0.mk (fun W (h : Kd.C k28 W A0 l.length l) => cells_c h hc0 hlen hi hb)
  obtain ⟨hl0, _, hf⟩ := (allV_ok l).1 hb
  have hw := (first_none l).1 hf
  rw [checkV_good hb]
  rw [hb] at hall
  generalize (allV l).1 = a1 at hall
  have HAL := Aside0.mk hall
  have HC := Aside0.mk hC
  have HI := Aside0.mk hi
  have HW := Aside0.mk hw
  have hu28 := Try.underlying28
  clear hall hC hi hb hf hw
  obtain ⟨ad0, eA0, _⟩ := at_T28 HC.out 0 (by omega) (by omega)
  subst eA0
  have HLC := Aside0.mk (cells_len l l.length)
  generalize hR : cellsL l l.length = R at *
  clear hR
  generalize hrr : allR2 (findB l R 0) = r
  have HR := Aside0.mk hrr
  clear hrr
  go_enter Try.func54, Try.ntmps54
  go_wp2_with (first | (go_at_call 99; refine HAL.out.mono ?_; rintro e w1 ⟨rfl, hb1⟩; have HB1 := Aside0.mk hb1; clear hb1) | (go_at_call 56; refine (HCE.out _ (Kd.C_below HC.out HB1.out)).mono ?_; rintro e w2 ⟨ob, rfl, hm2⟩; have HM2 := Aside0.mk (hm2.lower HB1.out); clear hm2))
  clear HCE HAL HB1
  go_loopw [26] (fun i wr => ∃ k : Nat, k ≤ l.length ∧ i = .int .i64 k ∧ Aside0 (MidC w wr ob R) ∧ Aside0 (∀ j, j < k → loadB (at_ l j) (R.getD (0 + j) []) = false)) (fun i _ => l.length - (intOf i).toNat)
  case atStart => exact ⟨0, by omega, rfl, ⟨HM2.out⟩, ⟨fun j hj => by omega⟩⟩
  case round =>
    clear HM2
    obtain ⟨k, hk, rfl, hm, hld⟩ := hrel
    by_cases hlt : k < l.length
    · have hdk : decide ((k : Int) < (l.length : Int)) = true := decide_eq_true (by omega)
      obtain ⟨ad2, eA, hx0, hx1, hx2, hx3⟩ := at_T28 (Kd.C_below HC.out hm.out.hb) (k : Int) (by omega) (by omega)
      obtain rfl := Option.some.inj eA
      clear eA
      rw [Int.toNat_natCast] at hx0 hx1 hx2 hx3
      have hiw := HI.out (at_ l k) (at_mem l k hlt)
      have hwell := (well_iff _ _).1 (HW.out k hlt)
      rw [rd_at] at hx0 hx1 hx2 hx3
      obtain ⟨v, kv, hrow, _⟩ := hm.out.rows.cell k (by rw [HLC.out]; exact hlt)
      have i0 : (0 : Int) ≤ (k : Int) := by omega
      have i1 : (k : Int) < (l.length : Int) := by omega
      have kva := fun o => pw_cell_below (below_alloc (Below.refl _ _) o) kv
      have HFA := Aside0.mk (find_at l R 0 k hlt hld.out)
      have HNX := Aside0.mk (show loadB (at_ l k) (R.getD (0 + k) []) = false → ∀ j, j < k + 1 → loadB (at_ l j) (R.getD (0 + j) []) = false from fun h j hj => by
        by_cases e : j = k
        · rw [e]; exact h
        · exact hld.out j (by omega))
      rw [Nat.zero_add] at HFA HNX
      have HM2 := Aside0.mk (fun o => hm.out.below (below_alloc (Below.refl _ _) o))
      have hcell := hwell.cell
      have h30 := hiw.2.2.2.1
      have HRX := Aside0.mk hrow
      have HMM := Aside0.mk hm.out
      clear hm hiw hwell hld
      generalize at_ l k = x at *
      generalize R.getD k [] = row at *
      by_cases hcode : x.f0 = 96 ∨ x.f0 = 97
      · have hk16 := hcell (by omega)
        clear hcell
        rcases hrow with ⟨rfl, rfl⟩ | ⟨h16, g, c, rfl, hRw⟩
        · have HNX2 := Aside0.mk (HNX.out loadB_nil)
          have hnl := fun W => run_neq_slice_nil_any (P := Try.prog) W 120 4 none 0 0 0 0 Try.underlying120
          clear HRX HMM HFA HNX
          rcases hcode with e | e
          · have d1 : (x.f0 == 96) = true := beq_iff_eq.2 e
            clear e
            go_wp2
            go_quiet (fail)
            go_wp2
            go_roundw
            case rel => exact ⟨k + 1, by omega, by go_num, ⟨(HM2.out _).drewN _⟩, ⟨HNX2.out⟩⟩
            case measure => simp [intOf]; omega
          · have d1 : (x.f0 == 96) = false := beq_eq_false_iff_ne.2 (by omega)
            have d2 : (x.f0 == 97) = true := beq_iff_eq.2 e
            clear e
            go_wp2
            go_quiet (fail)
            go_wp2
            go_roundw
            case rel => exact ⟨k + 1, by omega, by go_num, ⟨(HM2.out _).drewN _⟩, ⟨HNX2.out⟩⟩
            case measure => simp [intOf]; omega
        · have hnl := fun W => run_neq_slice_nil_any (P := Try.prog) W 120 4 (some ⟨g, 0, none⟩) 16 c 0 0 Try.underlying120
          have kb := fun o => pw_cell_below (below_alloc (Below.refl _ _) o) (row_cell h16 hRw x.f3.toNat (by omega)).1
          have HV := Aside0.mk (loadB_some (row := row) hcode h16)
          have j1 : x.f3 < 16 := hk16
          generalize row.getD x.f3.toNat false = b at *
          clear HRX HMM hRw
          cases b
          · have HRR := Aside0.mk (show r = ((k : Int), 51) by rw [← HR.out, HFA.out HV.out]; rfl)
            clear HFA HNX HV
            rcases hcode with e | e
            · have d1 : (x.f0 == 96) = true := beq_iff_eq.2 e
              clear e
              go_wp2
              go_quiet (fail)
              go_wp2
              rw [HRR.out]
              go_ret2
              exact ⟨rfl, ((HM2.out _).drewN _).hb⟩
            · have d1 : (x.f0 == 96) = false := beq_eq_false_iff_ne.2 (by omega)
              have d2 : (x.f0 == 97) = true := beq_iff_eq.2 e
              clear e
              go_wp2
              go_quiet (fail)
              go_wp2
              rw [HRR.out]
              go_ret2
              exact ⟨rfl, ((HM2.out _).drewN _).hb⟩
          · have HNX2 := Aside0.mk (HNX.out HV.out)
            clear HFA HNX HV
            rcases hcode with e | e
            · have d1 : (x.f0 == 96) = true := beq_iff_eq.2 e
              clear e
              go_wp2
              go_quiet (fail)
              go_wp2
              go_roundw
              case rel => exact ⟨k + 1, by omega, by go_num, ⟨(HM2.out _).drewN _⟩, ⟨HNX2.out⟩⟩
              case measure => simp [intOf]; omega
            · have d1 : (x.f0 == 96) = false := beq_eq_false_iff_ne.2 (by omega)
              have d2 : (x.f0 == 97) = true := beq_iff_eq.2 e
              clear e
              go_wp2
              go_quiet (fail)
              go_wp2
              go_roundw
              case rel => exact ⟨k + 1, by omega, by go_num, ⟨(HM2.out _).drewN _⟩, ⟨HNX2.out⟩⟩
              case measure => simp [intOf]; omega
      · have HNX2 := Aside0.mk (HNX.out (loadB_no hcode))
        have d1 : (x.f0 == 96) = false := beq_eq_false_iff_ne.2 (by omega)
        have d2 : (x.f0 == 97) = false := beq_eq_false_iff_ne.2 (by omega)
        clear hcell HRX HMM HFA HNX hrow
        go_wp2
        go_quiet (fail)
        go_wp2
        go_roundw
        case rel => exact ⟨k + 1, by omega, by go_num, ⟨(HM2.out _).drewN _⟩, ⟨HNX2.out⟩⟩
        case measure => simp [intOf]; omega
    · obtain rfl : k = l.length := by omega
      have hdk : decide (((l.length : Nat) : Int) < (l.length : Int)) = false := decide_eq_false (by omega)
      have HRR := Aside0.mk (show r = (0, 0) by rw [← HR.out, (find_none l R 0).2 hld.out]; rfl)
      have HB := Aside0.mk hm.out.hb
      clear hm hld
      go_wp2
      rw [HRR.out]
      go_ret2
      exact ⟨rfl, HB.out⟩
instance (x : Int) : Decidable (U x) := inferInstanceAs (Decidable (_ ∧ _))
instance (i : S28) : Decidable (IW i) := inferInstanceAs (Decidable (_ ∧ _ ∧ _ ∧ _))
def check_Check.f (l0 : List S28) : Option (Int × Int) := if l0.length ≤ 100000 ∧ (∀ i ∈ l0, IW i) then some (checkV l0) else none
theorem check_Check.calls (A0 : Option Addr) (c0 : Nat) (l0 : List (S28)) (r1 : Int) (r2 : Int) (w : World) (hr0 : Kd.C k28 w A0 l0.length l0) (hc0 : l0.length ≤ c0) (h : check_Check.f l0 = some (r1, r2)) :
    Calls Try.prog 54 #[.slice A0 l0.length c0] w fun e w' => e = .returned (.tuple #[.int .i64 r1, .int .i64 r2]) ∧ Below w.heap.size w w' := by
  unfold check_Check.f at h
  split at h
  · rename_i hc
    have h := Option.some.inj h
    by_cases hb : (allV l0).2 = 0
    · have := check_c hr0 hc0 hc.1 hc.2 hb
      rw [h] at this
      exact this
    · have := check_bad hr0 hc0 hc.1 hc.2 hb
      rw [← checkV_bad hb, h] at this
      exact this
  · cases h
def cellsV (l : List S28) : List (List Bool) × Int := if (allV l).2 = 0 then (cellsL l l.length, 0) else ([], (allV l).2)
def check_Cells.f (l0 : List S28) : Option (List (List Bool) × Int) := if l0.length ≤ 100000 ∧ (∀ i ∈ l0, IW i) then some (cellsV l0) else none
theorem rows_R {w wr : World} {ob : Nat} {rows : List (List Bool)} (h : MidC w wr ob rows) (hl : rows.length ≤ 100000) : Kd.R (Kd.slice 4 Kd.bool) 120 wr w.heap.size (fun _ => True) (.slice (some ⟨ob, 0, none⟩) rows.length rows.length) rows := by
  obtain ⟨rv, h1, h2, h3⟩ := h.rows
  refine ⟨fun _ _ => trivial, rv, ⟨by show rv.length = rows.length * 1; omega, .inr ⟨ob, rows.length, _, rfl, h.ho, h1, Nat.le_refl _, by unfold maxLen; omega, by show rv.toArray.size = rows.length * 1; simp; omega, by show List.take (rows.length * 1) rv = rv; exact List.take_of_length_le (by omega)⟩⟩, by show rv.length = rows.length * 1; omega, fun j p hj => ?_⟩
  have hjl : j < rows.length := by
    rcases Nat.lt_or_ge j rows.length with h | h
    · exact h
    · rw [List.getElem?_eq_none h] at hj; cases hj
  have hp : rows.getD j [] = p := by rw [List.getD_eq_getElem?_getD, hj]; rfl
  have hr := h3 j hjl
  rw [hp] at hr
  have e : List.take 1 (List.drop (j * 1) rv) = [rv.getD j undef] := by
    rw [Nat.mul_one, List.drop_eq_getElem_cons (by omega), List.getD_eq_getElem?_getD, List.getElem?_eq_getElem (by omega)]
    rfl
  show ∃ v, List.take 1 (List.drop (j * 1) rv) = [v] ∧ _
  refine ⟨_, e, ?_⟩
  rcases hr with ⟨rfl, e2⟩ | ⟨h16, g, c, e2, hR⟩
  · rw [e2]; exact Kd.R_nil _ _ _ _ _
  · refine Kd.R_mono (Kd.R_types hR h1 (by decide)) (fun k hk => ⟨trivial, ?_⟩)
    intro e3
    exact hk.2 (by simpa [Value.ownBlock] using e3)
theorem check_Cells.calls (A0 : Option Addr) (c0 : Nat) (l0 : List (S28)) (r1 : List (List Bool)) (r2 : Int) (w : World) (hr0 : Kd.C k28 w A0 l0.length l0) (hc0 : l0.length ≤ c0) (h : check_Cells.f l0 = some (r1, r2)) :
    Calls Try.prog 56 #[.slice A0 l0.length c0] w fun e w' => ∃ v0_ : Value, e = .returned (.tuple #[v0_, .int .i64 r2]) ∧ Kd.R (Kd.slice 4 Kd.bool) 120 w' w.heap.size (fun _ => True) v0_ r1 ∧ Below w.heap.size w w' := by
  unfold check_Cells.f cellsV at h
  split at h
  · rename_i hc
    have h := Option.some.inj h
    by_cases hb : (allV l0).2 = 0
    · rw [if_pos hb] at h
      obtain ⟨rfl, rfl⟩ := Prod.mk.inj h
      refine (cells_c hr0 hc0 hc.1 hc.2 hb).mono ?_
      rintro e w' ⟨ob, rfl, hm⟩
      have := rows_R hm (by rw [cells_len]; exact hc.1)
      rw [cells_len] at this
      exact ⟨_, rfl, this, hm.hb⟩
    · rw [if_neg hb] at h
      obtain ⟨rfl, rfl⟩ := Prod.mk.inj h
      refine (cells_bad hr0 hc0 hc.1 hc.2 hb).mono ?_
      rintro e w' ⟨rfl, hb'⟩
      exact ⟨_, rfl, Kd.R_nil _ _ _ _ _, hb'⟩
  · cases h
end Go.Proofs.Ytefkhcijgiagdaa.HCk
end
section
namespace Go.Proofs.Ytefkhcijgiagdaa.K3
open Go.RowKit Go.Proofs.YtefkhcijgiagdaaW.PrintWords Go.Proofs.YtefkhcijgiagdaaW.PrintLast Go.Proofs.YtefkhcijgiagdaaW.PrintMore
attribute [local go_sem] max2_int min2_int max_two min_two max_three min_three max_four min_four IntKind.wrap_u32 IntKind.wrap_u8   -- for this text's walks alone
set_option linter.unusedVariables false
open Go.Proofs.Ytefkhcijgiagdaa.Le Go.Proofs.Ytefkhcijgiagdaa.HKnown Go.Proofs.Ytefkhcijgiagdaa.HPut Go.Proofs.Ytefkhcijgiagdaa.I1 Go.Proofs.Ytefkhcijgiagdaa.E1 Go.Proofs.Ytefkhcijgiagdaa.HAsm Go.Proofs.Ytefkhcijgiagdaa.E2 Go.Proofs.Ytefkhcijgiagdaa.HAll Go.Proofs.Ytefkhcijgiagdaa.V0 Go.Proofs.Ytefkhcijgiagdaa.HVm Go.Proofs.Ytefkhcijgiagdaa.K0 Go.Proofs.Ytefkhcijgiagdaa.HCk
set_option linter.unusedSimpArgs false
def errW : Option Int → Value
  | none => .nilIface
  | some c => .iface 0 (.int .i64 c)
theorem errW_none : errW none = .nilIface := rfl
theorem errW_some (c : Int) : errW (some c) = .iface 0 (.int .i64 c) := rfl
end Go.Proofs.Ytefkhcijgiagdaa.K3
end
section
namespace Go.Proofs.Ytefkhcijgiagdaa.K3
open Go.RowKit Go.Proofs.YtefkhcijgiagdaaW.PrintWords Go.Proofs.YtefkhcijgiagdaaW.PrintLast Go.Proofs.YtefkhcijgiagdaaW.PrintMore
attribute [local go_sem] max2_int min2_int max_two min_two max_three min_three max_four min_four IntKind.wrap_u32 IntKind.wrap_u8   -- for this text's walks alone
set_option linter.unusedVariables false
open Go.Proofs.Ytefkhcijgiagdaa.Le Go.Proofs.Ytefkhcijgiagdaa.HKnown Go.Proofs.Ytefkhcijgiagdaa.HPut Go.Proofs.Ytefkhcijgiagdaa.I1 Go.Proofs.Ytefkhcijgiagdaa.E1 Go.Proofs.Ytefkhcijgiagdaa.HAsm Go.Proofs.Ytefkhcijgiagdaa.E2 Go.Proofs.Ytefkhcijgiagdaa.HAll Go.Proofs.Ytefkhcijgiagdaa.V0 Go.Proofs.Ytefkhcijgiagdaa.HVm Go.Proofs.Ytefkhcijgiagdaa.K0 Go.Proofs.Ytefkhcijgiagdaa.HCk
set_option linter.unusedSimpArgs false
def doorwardlaw12_alive.f  : Option (Bool) := (check_Check.f (([(⟨6, 0, 0, 0⟩ : S28)] : List (S28)))).bind fun bt104 => ((check_Check.f ([] : List (S28))).bind fun bt106 => (if bt104.2 = 0 then (some (bt106.2 == 51)) else (some false)))
set_option maxHeartbeats 8000000 in
set_option maxRecDepth 100000 in
theorem doorwardlaw12_alive.calls  (r : Bool) (w : World) (h : doorwardlaw12_alive.f  = some r) :
    Calls Try.prog 58 #[] w fun e w' => e = .returned (.bool r) ∧ Below w.heap.size w w' := by
  have hu28 := Try.underlying28
  have HB := Aside0.mk (Below.refl w.heap.size w)
  have H : ((check_Check.f (([(⟨6, 0, 0, 0⟩ : S28)] : List (S28)))).bind fun bt104 => ((check_Check.f ([] : List (S28))).bind fun bt106 => (if bt104.2 = 0 then (some (bt106.2 == 51)) else (some false)))) = some r := h
  clear h
  obtain ⟨y101, hy101⟩ : ∃ y_ : List (S28), y_ = (([(⟨6, 0, 0, 0⟩ : S28)] : List (S28))) := ⟨_, rfl⟩
  replace H : ((check_Check.f y101).bind fun bt104 => ((check_Check.f ([] : List (S28))).bind fun bt106 => (if bt104.2 = 0 then (some (bt106.2 == 51)) else (some false)))) = some r := by first | (rw [hy101]; with_reducible exact H) | (have H2_ := (Option.bind_some _ _).symm.trans H; rw [hy101]; with_reducible exact H2_) | (have H2_ := (Option.bind_some _ _).symm.trans H; with_reducible exact H2_) | with_reducible exact H | (rw [hy101]; exact H) | exact H
  have Ny101 := Aside0.mk hy101
  clear hy101
  replace H := Option.bind_eq_some_iff.mp H
  obtain ⟨⟨t104, t105⟩, A10, H⟩ := H
  replace H : ((check_Check.f ([] : List (S28))).bind fun bt106 => (if t105 = 0 then (some (bt106.2 == 51)) else (some false))) = some r := H
  have A1 := Aside0.mk A10
  clear A10
  replace H := Option.bind_eq_some_iff.mp H
  obtain ⟨⟨t106, t107⟩, A20, H⟩ := H
  replace H : (if t105 = 0 then (some (t107 == 51)) else (some false)) = some r := H
  have A2 := Aside0.mk A20
  clear A20
  by_cases c3 : t105 = 0
  · rw [if_pos c3] at H
    have c3b0 : (t105 == 0) = true := beq_iff_eq.mpr c3
    have c3b1 : (t105 != 0) = false := bne_eq_false_iff_eq.mpr c3
    clear c3
    obtain rfl := Option.some.inj H
    go_enter Try.func58, Try.ntmps58
    go_wp2_with (first | ((with_reducible refine gate_dst (N := 7) rfl ?_); refine Kd.R_lit k28 _ 28 ?hg (N := 7) ?hd (xs := ([(⟨6, 0, 0, 0⟩ : S28)] : List (S28))) (inner := [.int .i64 6, .int .i64 0, .int .i64 0, .int .u32 0]) (ok := fun _ => True) (okp := fun _ => True) ?hr ?hp (fun _ hk => hk) trivial (Below.refl _ _) (Nat.le_refl _) (by simp) ?_; (case hd => rfl); (case hg => rfl); (case hr => first | (go_simp; done) | (go_simp; rfl)); (case hp => exact (Reps.c4 (show Kd.M k28 _ _ _ (⟨6, 0, 0, 0⟩ : S28) [.int .i64 6, .int .i64 0, .int .i64 0, .int .u32 0] from (k28_mkM _ _ _ (⟨6, 0, 0, 0⟩ : S28) )) (Reps.none _ _))); intro v102 w4 ho5 hb hg_ hnew_; clear hg_ hnew_; (first | rw [← Ny101.out] at ho5 | (simp only [Int.reduceToNat] at ho5; rw [← Ny101.out] at ho5)); have n0_ := Aside0.mk (Kd.R_lower ho5 (below_size (by repeat (first | (with_reducible first | exact HB.out | apply below_alloc | apply pw_below_drewN | apply below_drew1) | exact HB.out)))); have n1_ := Aside0.mk (below_step (by repeat (first | (with_reducible first | exact HB.out | apply below_alloc | apply pw_below_drewN | apply below_drew1) | exact HB.out)) hb); clear HB; have HO103 := n0_; have HB := n1_; clear n0_ n1_; clear hb ho5; obtain ⟨Ao6, co6, eo6⟩ := Kd.R_slice HO103.out; subst eo6) | ((with_reducible refine gate_callee (f := 54) rfl ?_); refine goesL_ (some 8) rfl rfl Try.func54 (by kernel_rfl) rfl #[.slice Ao6 y101.length co6] rfl (by (try simp only [List.map_toArray, List.map_cons, List.map_nil]); first | done | rfl | (simp only [List.length_drop, List.length_take]; rfl)) ?_; (with_reducible refine (check_Check.calls _ _ y101 t104 t105 _ ?side1 ?side2 A1.out).mono ?_); (case side1 => repeat (first | exact (Kd.R_reads' HO103.out).2.2 | (with_reducible refine Kd.C_alloc ?_ _) | (with_reducible refine Kd.C_drewN ?_ _) | (with_reducible refine Kd.C_drew ?_))); (case side2 => exact (Kd.R_reads' HO103.out).2.1); rintro e w7 ⟨rfl, hb⟩; refine ⟨_, rfl, ?_⟩; have n0_ := Aside0.mk (Kd.R_below (by (with_reducible repeat (first | apply Kd.R_alloc | apply Kd.R_drewN | apply Kd.R_drew)); exact HO103.out) hb); have n1_ := Aside0.mk (below_step (by repeat (first | (with_reducible first | exact HB.out | apply below_alloc | apply pw_below_drewN | apply below_drew1) | exact HB.out)) hb); clear HO103; clear HB; have HO103 := n0_; have HB := n1_; clear n0_ n1_; (try clear hb); (try clear hb2); (try clear hk); (try clear hi)) | ((with_reducible refine gate_callee (f := 54) rfl ?_); refine goesL_ (some 12) rfl rfl Try.func54 (by kernel_rfl) rfl #[.slice none 0 0] rfl (by (try simp only [List.map_toArray, List.map_cons, List.map_nil]); first | done | rfl | (simp only [List.length_drop, List.length_take]; rfl)) ?_; (refine (check_Check.calls _ _ ([] : List (S28)) t106 t107 _ ?side1 ?side2 A2.out).mono ?_); (case side1 => exact Kd.C_nil _ _); (case side2 => exact Nat.le_refl _); rintro e w8 ⟨rfl, hb⟩; refine ⟨_, rfl, ?_⟩; have n0_ := Aside0.mk (Kd.R_below (by (with_reducible repeat (first | apply Kd.R_alloc | apply Kd.R_drewN | apply Kd.R_drew)); exact HO103.out) hb); have n1_ := Aside0.mk (below_step (by repeat (first | (with_reducible first | exact HB.out | apply below_alloc | apply pw_below_drewN | apply below_drew1) | exact HB.out)) hb); clear HO103; clear HB; have HO103 := n0_; have HB := n1_; clear n0_ n1_; (try clear hb); (try clear hb2); (try clear hk); (try clear hi)))
    go_ret
    exact ⟨by first | rfl | (simp [errW_none, errW_some] <;> rfl) | (simp [*, errW_none, errW_some] <;> rfl), by repeat (first | (with_reducible first | exact HB.out | apply below_alloc | apply pw_below_drewN | apply below_drew1) | exact HB.out)⟩
  · rw [if_neg c3] at H
    have c3b0 : (t105 == 0) = false := beq_eq_false_iff_ne.mpr c3
    have c3b1 : (t105 != 0) = true := bne_iff_ne.mpr c3
    obtain rfl := Option.some.inj H
    go_enter Try.func58, Try.ntmps58
    go_wp2_with (first | ((with_reducible refine gate_dst (N := 7) rfl ?_); refine Kd.R_lit k28 _ 28 ?hg (N := 7) ?hd (xs := ([(⟨6, 0, 0, 0⟩ : S28)] : List (S28))) (inner := [.int .i64 6, .int .i64 0, .int .i64 0, .int .u32 0]) (ok := fun _ => True) (okp := fun _ => True) ?hr ?hp (fun _ hk => hk) trivial (Below.refl _ _) (Nat.le_refl _) (by simp) ?_; (case hd => rfl); (case hg => rfl); (case hr => first | (go_simp; done) | (go_simp; rfl)); (case hp => exact (Reps.c4 (show Kd.M k28 _ _ _ (⟨6, 0, 0, 0⟩ : S28) [.int .i64 6, .int .i64 0, .int .i64 0, .int .u32 0] from (k28_mkM _ _ _ (⟨6, 0, 0, 0⟩ : S28) )) (Reps.none _ _))); intro v102 w9 ho10 hb hg_ hnew_; clear hg_ hnew_; (first | rw [← Ny101.out] at ho10 | (simp only [Int.reduceToNat] at ho10; rw [← Ny101.out] at ho10)); have n0_ := Aside0.mk (Kd.R_lower ho10 (below_size (by repeat (first | (with_reducible first | exact HB.out | apply below_alloc | apply pw_below_drewN | apply below_drew1) | exact HB.out)))); have n1_ := Aside0.mk (below_step (by repeat (first | (with_reducible first | exact HB.out | apply below_alloc | apply pw_below_drewN | apply below_drew1) | exact HB.out)) hb); clear HB; have HO103 := n0_; have HB := n1_; clear n0_ n1_; clear hb ho10; obtain ⟨Ao11, co11, eo11⟩ := Kd.R_slice HO103.out; subst eo11) | ((with_reducible refine gate_callee (f := 54) rfl ?_); refine goesL_ (some 8) rfl rfl Try.func54 (by kernel_rfl) rfl #[.slice Ao11 y101.length co11] rfl (by (try simp only [List.map_toArray, List.map_cons, List.map_nil]); first | done | rfl | (simp only [List.length_drop, List.length_take]; rfl)) ?_; (with_reducible refine (check_Check.calls _ _ y101 t104 t105 _ ?side1 ?side2 A1.out).mono ?_); (case side1 => repeat (first | exact (Kd.R_reads' HO103.out).2.2 | (with_reducible refine Kd.C_alloc ?_ _) | (with_reducible refine Kd.C_drewN ?_ _) | (with_reducible refine Kd.C_drew ?_))); (case side2 => exact (Kd.R_reads' HO103.out).2.1); rintro e w12 ⟨rfl, hb⟩; refine ⟨_, rfl, ?_⟩; have n0_ := Aside0.mk (Kd.R_below (by (with_reducible repeat (first | apply Kd.R_alloc | apply Kd.R_drewN | apply Kd.R_drew)); exact HO103.out) hb); have n1_ := Aside0.mk (below_step (by repeat (first | (with_reducible first | exact HB.out | apply below_alloc | apply pw_below_drewN | apply below_drew1) | exact HB.out)) hb); clear HO103; clear HB; have HO103 := n0_; have HB := n1_; clear n0_ n1_; (try clear hb); (try clear hb2); (try clear hk); (try clear hi)) | ((with_reducible refine gate_callee (f := 54) rfl ?_); refine goesL_ (some 12) rfl rfl Try.func54 (by kernel_rfl) rfl #[.slice none 0 0] rfl (by (try simp only [List.map_toArray, List.map_cons, List.map_nil]); first | done | rfl | (simp only [List.length_drop, List.length_take]; rfl)) ?_; (refine (check_Check.calls _ _ ([] : List (S28)) t106 t107 _ ?side1 ?side2 A2.out).mono ?_); (case side1 => exact Kd.C_nil _ _); (case side2 => exact Nat.le_refl _); rintro e w13 ⟨rfl, hb⟩; refine ⟨_, rfl, ?_⟩; have n0_ := Aside0.mk (Kd.R_below (by (with_reducible repeat (first | apply Kd.R_alloc | apply Kd.R_drewN | apply Kd.R_drew)); exact HO103.out) hb); have n1_ := Aside0.mk (below_step (by repeat (first | (with_reducible first | exact HB.out | apply below_alloc | apply pw_below_drewN | apply below_drew1) | exact HB.out)) hb); clear HO103; clear HB; have HO103 := n0_; have HB := n1_; clear n0_ n1_; (try clear hb); (try clear hb2); (try clear hk); (try clear hi)))
    go_ret
    exact ⟨by first | rfl | (simp [errW_none, errW_some] <;> rfl) | (simp [*, errW_none, errW_some] <;> rfl), by repeat (first | (with_reducible first | exact HB.out | apply below_alloc | apply pw_below_drewN | apply below_drew1) | exact HB.out)⟩
end Go.Proofs.Ytefkhcijgiagdaa.K3
end
section
namespace Go.Proofs.Ytefkhcijgiagdaa.HRch
open Go.RowKit Go.Proofs.YtefkhcijgiagdaaW.PrintWords Go.Proofs.YtefkhcijgiagdaaW.PrintLast Go.Proofs.YtefkhcijgiagdaaW.PrintMore Go.Proofs.Ytefkhcijgiagdaa.HKnown Go.Proofs.Ytefkhcijgiagdaa.I1 Go.Proofs.Ytefkhcijgiagdaa.QVm Go.Proofs.Ytefkhcijgiagdaa.QLe Go.Proofs.Ytefkhcijgiagdaa.QCheck Go.Proofs.Ytefkhcijgiagdaa.K0 Go.Proofs.Ytefkhcijgiagdaa.HCk
set_option linter.unusedVariables false
set_option linter.unusedSimpArgs false
set_option maxRecDepth 100000
attribute [local go_sem] max2_int min2_int max_two min_two IntKind.wrap_u32
theorem follows_f (i : S28) (f t : Nat) (hk : knownB i.f0 = true) (h3 : U i.f3) (h1 : 0 ≤ i.f1 ∧ i.f1 ≤ 255) (h2 : 0 ≤ i.f2 ∧ i.f2 ≤ 255) (hf : f ≤ 100000) (ht : t ≤ 100000) :
    doorwardref12_follows.f i.f0 i.f1 i.f2 i.f3 (f : Int) (t : Int) = some (folTo i f t) := by
  obtain ⟨kr0, kr1⟩ := known_range hk
  unfold doorwardref12_follows.f doorwardref12_returns.f doorwardref12_jumps.f folTo folL retB
  have a3 : wrap64 i.f3 = i.f3 := w64 _ (by omega) (by omega)
  have b0 : wrap64 ((f : Int) + 1) = (f : Int) + 1 := w64 _ (by omega) (by omega)
  have b3 : wrap64 ((f : Int) + 1 + i.f3) = (f : Int) + 1 + i.f3 := w64 _ (by omega) (by omega)
  have b1 : wrap64 ((f : Int) + 1 + i.f1) = (f : Int) + 1 + i.f1 := w64 _ (by omega) (by omega)
  have b2 : wrap64 ((f : Int) + 1 + i.f2) = (f : Int) + 1 + i.f2 := w64 _ (by omega) (by omega)
  rw [a3, b0, b3, b1, b2]
  clear a3 b0 b3 b1 b2
  by_cases e6 : i.f0 = 6
  · rw [if_pos e6, decide_eq_true (.inl e6)]; rfl
  rw [if_neg e6]
  by_cases e22 : i.f0 = 22
  · rw [e22]; rfl
  have e0 : (i.f0 == 22) = false := beq_eq_false_iff_ne.2 e22
  rw [e0, decide_eq_false (by omega)]
  simp only [Option.bind_some, Bool.false_eq_true, if_false]
  by_cases e5 : i.f0 = 5
  · rw [if_pos e5, if_pos e5]
    congr 1
    simp only [List.any_cons, List.any_nil, Bool.or_false]
    rw [Bool.eq_iff_iff, beq_iff_eq, decide_eq_true_eq]; omega
  rw [if_neg e5, if_neg e5, Int.tmod_eq_emod_of_nonneg kr0]
  by_cases e8 : i.f0 % 8 = 5
  · rw [if_pos e8, if_pos e8]
    have e9 : (i.f0 != 5) = true := bne_iff_ne.2 e5
    simp only [e9, Option.bind_some, if_true, List.any_cons, List.any_nil, Bool.or_false]
    by_cases g : (t : Int) = (f : Int) + 1 + i.f1
    · rw [if_pos g, decide_eq_true (by omega)]; rfl
    · rw [if_neg g]
      congr 1
      rw [decide_eq_false (show ¬ f + (i.f1.toNat + 1) = t by omega), Bool.false_or, Bool.eq_iff_iff, beq_iff_eq, decide_eq_true_eq]; omega
  · rw [if_neg e8, if_neg e8]
    simp only [Option.bind_some, Bool.false_eq_true, if_false, List.any_cons, List.any_nil, Bool.or_false]
    congr 1
    rw [Bool.eq_iff_iff, beq_iff_eq, decide_eq_true_eq]; omega
theorem makeB (n : Nat) (hn : n ≤ 100000) (W : World) : (Instr.makeSlice 120 (.int .i64 (n : Int)) (.int .i64 (n : Int))).run Try.prog W = .ok (.slice (some ⟨W.heap.size, 0, none⟩) n n) (W.alloc (bRow (List.replicate n false))) := by
  have h := run_make_row' (P := Try.prog) 120 4 (.bool false) 1 Try.underlying120 info4 rfl .i64 .i64 n (by omega) (by omega) W
  rw [made_bools] at h
  exact h
def outO (l : List S28) (c t : Nat) : List Bool := rchL l c t ++ List.replicate (l.length - t) false
def outI (l : List S28) (c t f : Nat) : List Bool := rchL l c t ++ (qch l c f t :: List.replicate (l.length - t - 1) false)
theorem outO_len (l : List S28) (c t : Nat) (h : t ≤ l.length) : (outO l c t).length = l.length := by unfold outO; rw [List.length_append, rchL_len, List.length_replicate]; omega
theorem outI_len (l : List S28) (c t f : Nat) (h : t < l.length) : (outI l c t f).length = l.length := by unfold outI; rw [List.length_append, List.length_cons, rchL_len, List.length_replicate]; omega
theorem outO_zero (l : List S28) (c : Nat) : outO l c 0 = List.replicate l.length false := rfl
theorem outO_all (l : List S28) (c : Nat) : outO l c l.length = rchL l c l.length := by unfold outO; simp
theorem outO_set (l : List S28) (c t : Nat) (h : t < l.length) : (outO l c t).set t (decide (t = 0)) = outI l c t 0 := by
  unfold outO outI
  obtain ⟨d, hd⟩ : ∃ d, l.length - t = d + 1 := ⟨l.length - t - 1, by omega⟩
  rw [List.set_append_right _ _ (by rw [rchL_len]; exact Nat.le_refl _), rchL_len, Nat.sub_self, hd, List.replicate_succ, List.set_cons_zero, Nat.add_sub_cancel]
  have : qch l c 0 t = decide (t = 0) := by unfold qch; simp
  rw [this]
theorem outI_end (l : List S28) (c t : Nat) (h : t < l.length) : outI l c t t = outO l c (t + 1) := by
  unfold outO outI
  show _ = (rchL l c t ++ [_]) ++ _
  rw [List.append_assoc, List.singleton_append]
  have : qch l c t t = rch l c t := (rch_eq l c t).symm
  rw [this]
  congr 2
  · unfold rch
    show (rchL l c t ++ [_]).getD t false = _
    rw [List.getD_eq_getElem?_getD, List.getElem?_append_right (by rw [rchL_len]; exact Nat.le_refl _), rchL_len, Nat.sub_self]; rfl
theorem outI_get (l : List S28) (c t f g : Nat) (h : g < t) : (outI l c t f).getD g false = rch l c g := by
  unfold outI
  rw [getD_append_l _ _ _ _ (by rw [rchL_len]; exact h), rchL_get l c t g h]
theorem outI_set (l : List S28) (c t f : Nat) (hx : (rch l c f && !wrB (at_ l f) c && folTo (at_ l f) f t) = true) : (outI l c t f).set t true = outI l c t (f + 1) := by
  unfold outI
  rw [List.set_append_right _ _ (by rw [rchL_len]; exact Nat.le_refl _), rchL_len, Nat.sub_self, List.set_cons_zero, qch_succ, hx, Bool.or_true]
theorem outI_same (l : List S28) (c t f : Nat) (hx : (rch l c f && !wrB (at_ l f) c && folTo (at_ l f) f t) = false) : outI l c t (f + 1) = outI l c t f := by
  unfold outI
  rw [qch_succ, hx, Bool.or_false]
set_option maxHeartbeats 4000000 in
theorem reach_c {w : World} {A0 : Option Addr} {c0 : Nat} {l : List S28} (hC : Kd.C k28 w A0 l.length l) (hc0 : l.length ≤ c0) (hlen : l.length ≤ 100000) (hi : ∀ i ∈ l, IW i) (hf : firstB l = none) (c : Nat) (hc : c ≤ 16) :
    Calls Try.prog 103 #[.slice A0 l.length c0, .int .i64 (c : Int)] w fun e w' => ∃ ob, e = .returned (.slice (some ⟨ob, 0, none⟩) l.length l.length) ∧ w.heap.size ≤ ob ∧ w'.heap[ob]? = some (bRow (rchL l c l.length)) ∧ Below w.heap.size w w' := by
  have hw := (first_none l).1 hf
  have HC := Aside0.mk hC
  have HI := Aside0.mk hi
  have HW := Aside0.mk hw
  have hu28 := Try.underlying28
  have hmB := makeB l.length hlen
  have HN := Aside0.mk (heap_alloc_new w (bRow (List.replicate l.length false)))
  have HOA := Aside0.mk (outO_all l c)
  clear hC hi hf hw
  go_enter Try.func103, Try.ntmps103
  go_wp2
  generalize hob : w.heap.size = ob at *
  have HOB := Aside0.mk hob
  clear hob
  go_loopw [15] (fun i wr => ∃ t : Nat, t ≤ l.length ∧ i = .int .i64 t ∧ Aside0 (wr.heap[ob]? = some (bRow (outO l c t))) ∧ Aside0 (Below w.heap.size w wr)) (fun i _ => l.length - (intOf i).toNat)
  case atStart => exact ⟨0, by omega, rfl, ⟨by rw [outO_zero]; exact HN.out⟩, ⟨below_alloc (Below.refl _ _) _⟩⟩
  case round =>
    clear HN
    obtain ⟨t, ht, rfl, hx, hb⟩ := hrel
    by_cases hlt : t < l.length
    · have hdt : decide ((t : Int) < (l.length : Int)) = true := decide_eq_true (by omega)
      have kc := bRow_cell hx.out t (by rw [outO_len l c t ht]; exact hlt)
      have kf := bRow_free hx.out t
      have i0 : (0 : Int) ≤ (t : Int) := by omega
      have i1 : (t : Int) < (l.length : Int) := by omega
      have hz : ((t : Int) == 0) = decide (t = 0) := by rw [Bool.eq_iff_iff, beq_iff_eq, decide_eq_true_eq]; omega
      have HX1 := Aside0.mk (show (World.setCell _ ⟨ob, t, none⟩ (.bool (decide (t = 0)))).heap[ob]? = some (bRow (outI l c t 0)) from by
        rw [← outO_set l c t hlt]; exact bRow_set hx.out t _)
      have HB1 := Aside0.mk (hb.out.setCell (p := ⟨ob, t, none⟩) (show w.heap.size ≤ ob by rw [HOB.out]; exact Nat.le_refl _) (.bool (decide (t = 0))))
      have HIE := Aside0.mk (outI_end l c t hlt)
      clear hx hb
      generalize (outO l c t).getD t false = cv at *
      generalize decide (t = 0) = z at *
      go_wp2
      clear hz kc kf
      go_loopw [7] (fun i w2 => ∃ f : Nat, f ≤ t ∧ i = .int .i64 f ∧ Aside0 (w2.heap[ob]? = some (bRow (outI l c t f))) ∧ Aside0 (Below w.heap.size w w2)) (fun i _ => t - (intOf i).toNat)
      case atStart => exact ⟨0, by omega, rfl, ⟨HX1.out⟩, ⟨HB1.out⟩⟩
      case round =>
        clear HX1 HB1
        obtain ⟨f, hf, rfl, hx, hb⟩ := hrel
        by_cases hltf : f < t
        · have hdf : decide ((f : Int) < (t : Int)) = true := decide_eq_true (by omega)
          have hfl : f < l.length := by omega
          obtain ⟨ad2, eA, hx0, hx1, hx2, hx3⟩ := at_T28 (Kd.C_below HC.out hb.out) (f : Int) (by omega) (by omega)
          subst eA
          rw [Int.toNat_natCast] at hx0 hx1 hx2 hx3
          have hiw := HI.out (at_ l f) (at_mem l f hfl)
          have hwell := (well_iff _ _).1 (HW.out f hfl)
          rw [rd_at] at hx0 hx1 hx2 hx3
          have kc := bRow_cell hx.out f (by rw [outI_len l c t f hlt]; omega)
          rw [outI_get l c t f f hltf] at kc
          have kt := bRow_cell hx.out t (by rw [outI_len l c t f hlt]; omega)
          have kft := bRow_free hx.out t
          have kca := fun o => pw_cell_below (below_alloc (Below.refl _ _) o) kc
          have kta := fun o => pw_cell_below (below_alloc (Below.refl _ _) o) kt
          have kfta := fun (o : Obj) => bRow_free (blk_alloc hx.out o) t
          have j0 : (0 : Int) ≤ (f : Int) := by omega
          have j1 : (f : Int) < (l.length : Int) := by omega
          have HBX := Aside0.mk (fun (o : Obj) => (⟨blk_alloc hx.out o, below_alloc hb.out o⟩ : (World.alloc _ o).heap[ob]? = some (bRow (outI l c t f)) ∧ Below w.heap.size w (World.alloc _ o)))
          have HSM := Aside0.mk (outI_same l c t f)
          have HST := Aside0.mk (outI_set l c t f)
          have HFO := Aside0.mk (fun W : World => doorwardref12_follows.calls (at_ l f).f0 (at_ l f).f1 (at_ l f).f2 (at_ l f).f3 (f : Int) (t : Int) _ W (follows_f (at_ l f) f t hwell.kn hiw.2.2.2 ⟨hwell.t0, hwell.t1⟩ ⟨hwell.f0, hwell.f1⟩ (by omega) (by omega)))
          have hwr : wrB (at_ l f) c = (decide ((at_ l f).f0 = 2 ∨ (at_ l f).f0 = 3) && decide ((at_ l f).f3 = (c : Int))) := by
            have := hiw.2.2.2.1
            unfold wrB stB
            congr 1
            rw [Bool.eq_iff_iff, decide_eq_true_eq, decide_eq_true_eq]; omega
          have h3a := hiw.2.2.2.1
          have h3b := hiw.2.2.2.2
          have w3 : wrap64 (at_ l f).f3 = (at_ l f).f3 := w64 _ (by omega) (by omega)
          clear hiw hwell hx hb
          generalize (outI l c t f).getD t false = ct at *
          generalize rch l c f = rb at *
          generalize folTo (at_ l f) f t = fo at *
          generalize wrB (at_ l f) c = wb at *
          generalize at_ l f = x at *
          have hcs : ((x.f0 == 2) = true ∧ (x.f3 == (c : Int)) = wb) ∨ ((x.f0 == 2) = false ∧ (x.f0 == 3) = true ∧ (x.f3 == (c : Int)) = wb) ∨ ((x.f0 == 2) = false ∧ (x.f0 == 3) = false ∧ wb = false) := by
            rw [hwr]
            by_cases e2 : x.f0 = 2
            · left
              refine ⟨beq_iff_eq.2 e2, ?_⟩
              rw [decide_eq_true (.inl e2), Bool.true_and, Bool.eq_iff_iff, beq_iff_eq, decide_eq_true_eq]
            · right
              by_cases e3 : x.f0 = 3
              · left
                refine ⟨beq_eq_false_iff_ne.2 e2, beq_iff_eq.2 e3, ?_⟩
                rw [decide_eq_true (.inr e3), Bool.true_and, Bool.eq_iff_iff, beq_iff_eq, decide_eq_true_eq]
              · right
                refine ⟨beq_eq_false_iff_ne.2 e2, beq_eq_false_iff_ne.2 e3, ?_⟩
                rw [decide_eq_false (by omega), Bool.false_and]
          clear hwr
          rcases hcs with ⟨d2, dk⟩ | ⟨d2, d3, dk⟩ | ⟨d2, d3, rfl⟩
          focus
            cases rb <;> cases wb <;> cases fo
          rotate_left 8
          focus
            cases rb <;> cases wb <;> cases fo
          rotate_left 8
          focus
            cases rb <;> cases fo
          all_goals first
            | (have HE := Aside0.mk (HSM.out rfl)
               clear HSM HST
               go_wp2_with (go_at_call 132; refine (HFO.out _).mono ?_; rintro e w5 ⟨rfl, hb5⟩; have HX5 := Aside0.mk (blk_below (HBX.out _).1 hb5); have HB5 := Aside0.mk (below_step (HBX.out _).2 hb5); clear hb5)
               clear w3
               go_roundw
               case rel => exact ⟨f + 1, by omega, by go_num, ⟨by rw [HE.out]; first | exact HX5.out | exact (HBX.out _).1⟩, ⟨by first | exact HB5.out | exact (HBX.out _).2⟩⟩
               case measure => simp [intOf]; omega)
            | (have HE := Aside0.mk (HST.out rfl)
               clear HSM HST
               go_wp2_with (go_at_call 132; refine (HFO.out _).mono ?_; rintro e w5 ⟨rfl, hb5⟩; have HX5 := Aside0.mk (blk_below (HBX.out _).1 hb5); have HB5 := Aside0.mk (below_step (HBX.out _).2 hb5); have HX6 := Aside0.mk (bRow_set HX5.out t true); have HB6 := Aside0.mk (HB5.out.setCell (p := ⟨ob, t, none⟩) (show w.heap.size ≤ ob by rw [HOB.out]; exact Nat.le_refl _) (.bool true)); have kt5 := pw_cell_below hb5 (pw_cell_below (below_alloc (Below.refl _ _) (.cells #[.int .i64 x.f0, .int .i64 x.f1, .int .i64 x.f2, .int .u32 x.f3] 28)) kt); have kft5 := bRow_free HX5.out t; clear hb5)
               clear w3
               go_roundw
               case rel => exact ⟨f + 1, by omega, by go_num, ⟨by rw [← HE.out]; exact HX6.out⟩, ⟨HB6.out⟩⟩
               case measure => simp [intOf]; omega)
        · obtain rfl : f = t := by omega
          have hdf : decide ((f : Int) < (f : Int)) = false := decide_eq_false (by omega)
          have HXE := Aside0.mk (HIE.out ▸ hx.out)
          have HBE := Aside0.mk hb.out
          clear hx hb
          go_wp2
          go_roundw
          case rel => exact ⟨f + 1, by omega, by go_num, ⟨HXE.out⟩, ⟨HBE.out⟩⟩
          case measure => simp [intOf]; omega
    · obtain rfl : t = l.length := by omega
      have hdt : decide (((l.length : Nat) : Int) < (l.length : Int)) = false := decide_eq_false (by omega)
      have HXE := Aside0.mk (HOA.out ▸ hx.out)
      have HBE := Aside0.mk hb.out
      clear hx hb
      go_wp2
      go_ret
      exact ⟨ob, rfl, by rw [HOB.out]; exact Nat.le_refl _, HXE.out, HBE.out⟩
instance (x : Int) : Decidable (U x) := inferInstanceAs (Decidable (_ ∧ _))
instance (i : S28) : Decidable (IW i) := inferInstanceAs (Decidable (_ ∧ _ ∧ _ ∧ _))
def doorwardref12_reached.f (l0 : List S28) (a1 : Int) : Option (List Bool) := if l0.length ≤ 100000 ∧ (∀ i ∈ l0, IW i) ∧ firstB l0 = none ∧ 0 ≤ a1 ∧ a1 ≤ 16 then some (rchL l0 a1.toNat l0.length) else none
theorem doorwardref12_reached.calls (A0 : Option Addr) (c0 : Nat) (l0 : List (S28)) (a1 : Int) (r : List Bool) (w : World) (hr0 : Kd.C k28 w A0 l0.length l0) (hc0 : l0.length ≤ c0) (h : doorwardref12_reached.f l0 a1 = some r) :
    Calls Try.prog 103 #[.slice A0 l0.length c0, .int .i64 a1] w fun e w' => ∃ v0_ : Value, e = .returned (v0_) ∧ Kd.R Kd.bool 4 w' w.heap.size (fun _ => True) v0_ r ∧ Below w.heap.size w w' := by
  unfold doorwardref12_reached.f at h
  split at h
  · rename_i hc
    obtain ⟨h1, h2, h3, h4, h5⟩ := hc
    obtain rfl := Option.some.inj h
    have k := reach_c hr0 hc0 h1 h2 h3 a1.toNat (by omega)
    rw [show ((a1.toNat : Nat) : Int) = a1 by omega] at k
    refine k.mono ?_
    rintro e w' ⟨ob, rfl, ho, hx, hb⟩
    have hR := R_of_block ho hx (by rw [rchL_len]; omega)
    rw [rchL_len] at hR
    exact ⟨_, rfl, hR, hb⟩
  · cases h
end Go.Proofs.Ytefkhcijgiagdaa.HRch
end
section
namespace Go.Proofs.Ytefkhcijgiagdaa.K1
open Go.RowKit Go.Proofs.YtefkhcijgiagdaaW.PrintWords Go.Proofs.YtefkhcijgiagdaaW.PrintLast Go.Proofs.YtefkhcijgiagdaaW.PrintMore
attribute [local go_sem] max2_int min2_int max_two min_two max_three min_three max_four min_four IntKind.wrap_u32 IntKind.wrap_u8   -- for this text's walks alone
set_option linter.unusedVariables false
open Go.Proofs.Ytefkhcijgiagdaa.Le Go.Proofs.Ytefkhcijgiagdaa.HKnown Go.Proofs.Ytefkhcijgiagdaa.HPut Go.Proofs.Ytefkhcijgiagdaa.I1 Go.Proofs.Ytefkhcijgiagdaa.E1 Go.Proofs.Ytefkhcijgiagdaa.HAsm Go.Proofs.Ytefkhcijgiagdaa.E2 Go.Proofs.Ytefkhcijgiagdaa.HAll Go.Proofs.Ytefkhcijgiagdaa.V0 Go.Proofs.Ytefkhcijgiagdaa.HVm Go.Proofs.Ytefkhcijgiagdaa.K0 Go.Proofs.Ytefkhcijgiagdaa.HCk Go.Proofs.Ytefkhcijgiagdaa.K3 Go.Proofs.Ytefkhcijgiagdaa.HRch
set_option linter.unusedSimpArgs false
def errW : Option Int → Value
  | none => .nilIface
  | some c => .iface 0 (.int .i64 c)
theorem errW_none : errW none = .nilIface := rfl
theorem errW_some (c : Int) : errW (some c) = .iface 0 (.int .i64 c) := rfl
theorem info4 : (Try.prog.info? 4).map (fun i => (i.zero, i.size, i.bytes)) = some (some (.bool false), 1, 1) := by kernel_rfl
theorem info120 : (Try.prog.info? 120).map (fun i => (i.zero, i.size, i.bytes)) = some (some (.slice none 0 0), 1, 24) := by kernel_rfl
def rd_L6 (xs : List (List Bool)) (i : Int) : (List Bool) := xs.getD i.toNat ([] : List Bool)
theorem at_L6 {w : World} {A : Option Addr} {n : Nat} {xs : List (List Bool)} (h : Kd.C (Kd.slice 4 Kd.bool) w A n xs) (i : Int) (h0 : 0 ≤ i) (h1 : i < n) : ∃ ad A0 c0, A = some ad ∧ w.cell? (ad.add i.toNat) = some (.slice A0 (rd_L6 xs i).length c0) ∧ (rd_L6 xs i).length ≤ c0 ∧ Kd.bool.C w A0 (rd_L6 xs i).length (rd_L6 xs i) := by
  obtain ⟨ad, c, e, _, hK, hc0⟩ := Kd.C_get h ([] : List Bool) i h0 h1
  have hc : ∀ j u, c[j]? = some u → w.cell? (ad.add (i.toNat * 1 + j)) = some u := hc0
  obtain ⟨A0, c0, rfl, l0, g0⟩ := hK
  exact ⟨ad, A0, c0, e, by have hq := hc 0 _ rfl; rwa [Nat.mul_one, Nat.add_zero] at hq, l0, g0⟩
end Go.Proofs.Ytefkhcijgiagdaa.K1
end
section
namespace Go.Proofs.Ytefkhcijgiagdaa.K1
open Go.RowKit Go.Proofs.YtefkhcijgiagdaaW.PrintWords Go.Proofs.YtefkhcijgiagdaaW.PrintLast Go.Proofs.YtefkhcijgiagdaaW.PrintMore
attribute [local go_sem] max2_int min2_int max_two min_two max_three min_three max_four min_four IntKind.wrap_u32 IntKind.wrap_u8   -- for this text's walks alone
set_option linter.unusedVariables false
open Go.Proofs.Ytefkhcijgiagdaa.Le Go.Proofs.Ytefkhcijgiagdaa.HKnown Go.Proofs.Ytefkhcijgiagdaa.HPut Go.Proofs.Ytefkhcijgiagdaa.I1 Go.Proofs.Ytefkhcijgiagdaa.E1 Go.Proofs.Ytefkhcijgiagdaa.HAsm Go.Proofs.Ytefkhcijgiagdaa.E2 Go.Proofs.Ytefkhcijgiagdaa.HAll Go.Proofs.Ytefkhcijgiagdaa.V0 Go.Proofs.Ytefkhcijgiagdaa.HVm Go.Proofs.Ytefkhcijgiagdaa.K0 Go.Proofs.Ytefkhcijgiagdaa.HCk Go.Proofs.Ytefkhcijgiagdaa.K3 Go.Proofs.Ytefkhcijgiagdaa.HRch
set_option linter.unusedSimpArgs false
mutual
def doorwardref12_Like.l0 : Nat → List (List Bool) → List (List Bool) → Int → Int → Option (Bool)
  | 0, _, _, _, _ => none
  | k + 1, x0, x1, x13, x14 => if x14 < x13 then (if 0 ≤ x14 then (if x14 < (x0.length : Int) then (if x14 < (x1.length : Int) then (if ((rd_L6 x0 x14).length : Int) = ((rd_L6 x1 x14).length : Int) then (doorwardref12_Like.l1 k x0 x1 x14 x13 x14 ((rd_L6 x0 x14).length : Int) 0) else (some false)) else (none)) else (none)) else (none)) else (some true)
def doorwardref12_Like.l1 : Nat → List (List Bool) → List (List Bool) → Int → Int → Int → Int → Int → Option (Bool)
  | 0, _, _, _, _, _, _, _ => none
  | k + 1, x0, x1, x5, x13, x14, x32, x33 => if x33 < x32 then (if 0 ≤ x5 then (if x5 < (x0.length : Int) then (if 0 ≤ x33 then (if x33 < ((rd_L6 x0 x5).length : Int) then (if x5 < (x1.length : Int) then (if x33 < ((rd_L6 x1 x5).length : Int) then (if ((rdOf false (rd_L6 x0 x5) x33) != (rdOf false (rd_L6 x1 x5) x33)) = true then (some false) else (doorwardref12_Like.l1 k x0 x1 x5 x13 x14 x32 (wrap64 (x33 + 1)))) else (none)) else (none)) else (none)) else (none)) else (none)) else (none)) else (doorwardref12_Like.l0 k x0 x1 x13 (wrap64 (x14 + 1)))
end
def doorwardref12_Like.f (k : Nat) (l0 : List (List Bool)) (l1 : List (List Bool)) : Option (Bool) := if (l0.length : Int) = (l1.length : Int) then (doorwardref12_Like.l0 k l0 l1 (l0.length : Int) 0) else (some false)
set_option maxHeartbeats 8000000 in
set_option maxRecDepth 100000 in
theorem doorwardref12_Like.calls (k : Nat) (A0 : Option Addr) (c0 : Nat) (l0 : List (List Bool)) (A1 : Option Addr) (c1 : Nat) (l1 : List (List Bool)) (r : Bool) (w : World) (hr0 : Kd.C (Kd.slice 4 Kd.bool) w A0 l0.length l0) (hc0 : l0.length ≤ c0) (hr1 : Kd.C (Kd.slice 4 Kd.bool) w A1 l1.length l1) (hc1 : l1.length ≤ c1) (h : doorwardref12_Like.f k l0 l1 = some r) :
    Calls Try.prog 59 #[.slice A0 l0.length c0, .slice A1 l1.length c1] w fun e w' => e = .returned (.bool r) ∧ Drawn0 w w' := by
  have HR0 := Aside0.mk hr0
  have HC0 := Aside0.mk hc0
  clear hr0 hc0
  have HR1 := Aside0.mk hr1
  have HC1 := Aside0.mk hc1
  clear hr1 hc1
  have H : (if (l0.length : Int) = (l1.length : Int) then (doorwardref12_Like.l0 k l0 l1 (l0.length : Int) 0) else (some false)) = some r := h
  clear h
  by_cases c3 : (l0.length : Int) = (l1.length : Int)
  · rw [if_pos c3] at H
    have c3b0 : ((l0.length : Int) == (l1.length : Int)) = true := beq_iff_eq.mpr c3
    have c3b1 : ((l0.length : Int) != (l1.length : Int)) = false := bne_eq_false_iff_eq.mpr c3
    have c3b2 : (l0.length == l1.length) = true := by first | simpa using c3 | (simp at c3 ⊢; omega)
    clear c3
    have H' := Aside0.mk H
    clear H
    go_enter Try.func59, Try.ntmps59
    go_wp2
    repeat (go_quiet (fail); try go_wp2)
    go_loopg [14] k (fun kq v14 w' => ∃ (x14_1 : Int), v14 = .int .i64 x14_1 ∧ Aside0 (doorwardref12_Like.l0 kq l0 l1 (l0.length : Int) x14_1 = some r) ∧ Aside0 (kq ≤ k) ∧ Drawn0 w w')
    case atStart => exact ⟨(0), (by first | rfl | (simp; done) | (simp [*]; done)), H', ⟨Nat.le_refl _⟩, by repeat (first | exact Drawn0.refl _ | apply Drawn0.step)⟩
    case round =>
      clear H'
      try clear c1
      try clear p2
      try clear c3
      try clear c3b0
      try clear c3b1
      try clear c3b2
      obtain ⟨x14_1, rfl, HA, HK1, ⟨m1, rfl⟩⟩ := hrel
      cases gk with
      | zero => exact absurd HA.out (by simp [doorwardref12_Like.l0])
      | succ k1 =>
        have H := HA.out
        clear HA
        simp only [doorwardref12_Like.l0] at H
        by_cases c4 : x14_1 < (l0.length : Int)
        · rw [if_pos c4] at H
          have c4b0 : decide (x14_1 < (l0.length : Int)) = true := decide_eq_true c4
          clear c4
          by_cases c5 : 0 ≤ x14_1
          · rw [if_pos c5] at H
            have c5b0 : decide (0 ≤ x14_1) = true := decide_eq_true c5
            clear c5
            by_cases c6 : x14_1 < (l0.length : Int)
            · rw [if_pos c6] at H
              have c6b0 : decide (x14_1 < (l0.length : Int)) = true := decide_eq_true c6
              clear c6
              by_cases c7 : x14_1 < (l1.length : Int)
              · rw [if_pos c7] at H
                have c7b0 : decide (x14_1 < (l1.length : Int)) = true := decide_eq_true c7
                clear c7
                by_cases c8 : ((rd_L6 l0 x14_1).length : Int) = ((rd_L6 l1 x14_1).length : Int)
                · rw [if_pos c8] at H
                  have c8b0 : (((rd_L6 l0 x14_1).length : Int) == ((rd_L6 l1 x14_1).length : Int)) = true := beq_iff_eq.mpr c8
                  have c8b1 : (((rd_L6 l0 x14_1).length : Int) != ((rd_L6 l1 x14_1).length : Int)) = false := bne_eq_false_iff_eq.mpr c8
                  have c8b2 : ((rd_L6 l0 x14_1).length == (rd_L6 l1 x14_1).length) = true := by first | simpa using c8 | (simp at c8 ⊢; omega)
                  clear c8
                  have H' := Aside0.mk H
                  clear H
                  have p144 : 0 ≤ (x14_1 : Int) := of_decide_eq_true (by first | (with_reducible assumption) | assumption)
                  have q144 : x14_1 < (l0.length : Int) := of_decide_eq_true (by first | (with_reducible assumption) | assumption)
                  obtain ⟨ad144, A144_0, c144_0, e144, hx144_0, hl144_0, hi144_0⟩ := at_L6 HR0.out x14_1 p144 q144
                  cases e144
                  have HR144_0 := Aside0.mk hi144_0
                  have HC144_0 := Aside0.mk hl144_0
                  clear hi144_0 hl144_0
                  replace p144 := eq_true p144
                  replace q144 := eq_true q144
                  have p145 : 0 ≤ (x14_1 : Int) := of_decide_eq_true (by first | (with_reducible assumption) | assumption)
                  have q145 : x14_1 < (l1.length : Int) := of_decide_eq_true (by first | (with_reducible assumption) | assumption)
                  obtain ⟨ad145, A145_0, c145_0, e145, hx145_0, hl145_0, hi145_0⟩ := at_L6 HR1.out x14_1 p145 q145
                  cases e145
                  have HR145_0 := Aside0.mk hi145_0
                  have HC145_0 := Aside0.mk hl145_0
                  clear hi145_0 hl145_0
                  replace p145 := eq_true p145
                  replace q145 := eq_true q145
                  have p146 : 0 ≤ (x14_1 : Int) := of_decide_eq_true (by first | (with_reducible assumption) | assumption)
                  have q146 : x14_1 < (l0.length : Int) := of_decide_eq_true (by first | (with_reducible assumption) | assumption)
                  obtain ⟨ad146, A146_0, c146_0, e146, hx146_0, hl146_0, hi146_0⟩ := at_L6 HR0.out x14_1 p146 q146
                  obtain rfl : ad144 = ad146 := (by injection e146)
                  have HR146_0 := Aside0.mk hi146_0
                  have HC146_0 := Aside0.mk hl146_0
                  clear hi146_0 hl146_0
                  replace p146 := eq_true p146
                  replace q146 := eq_true q146
                  have ea_ := Option.some.inj (hx144_0.symm.trans hx146_0)
                  injection ea_ with ea_ en_ ec_
                  subst ea_
                  subst ec_
                  clear en_
                  go_wp2
                  repeat (go_quiet (fail); try go_wp2)
                  go_loopg [33] k1 (fun kq v33 w' => ∃ (x33_2 : Int), v33 = .int .i64 x33_2 ∧ Aside0 (doorwardref12_Like.l1 kq l0 l1 x14_1 (l0.length : Int) x14_1 ((rd_L6 l0 x14_1).length : Int) x33_2 = some r) ∧ Aside0 (kq ≤ k1) ∧ Drawn0 w w')
                  case atStart => exact ⟨(0), (by first | rfl | (simp; done) | (simp [*]; done)), H', ⟨Nat.le_refl _⟩, by repeat (first | exact Drawn0.refl _ | apply Drawn0.step)⟩
                  case round =>
                    clear H'
                    try clear c1
                    try clear p1
                    try clear q1
                    try clear hx1
                    try clear p2
                    try clear c3
                    try clear c3b0
                    try clear c3b1
                    try clear c3b2
                    try clear c4
                    try clear c4b0
                    try clear c5
                    try clear c5b0
                    try clear c6
                    try clear c6b0
                    try clear c7
                    try clear c7b0
                    try clear c8
                    try clear c8b0
                    try clear c8b1
                    try clear c8b2
                    try clear hx144_0
                    try clear hx145_0
                    try clear hx146_0
                    try clear p144
                    try clear p145
                    try clear p146
                    try clear p2
                    try clear q144
                    try clear q145
                    try clear q146
                    obtain ⟨x33_2, rfl, HA, HK2, ⟨m2, rfl⟩⟩ := hrel
                    cases gk with
                    | zero => exact absurd HA.out (by simp [doorwardref12_Like.l1])
                    | succ k2 =>
                      have H := HA.out
                      clear HA
                      simp only [doorwardref12_Like.l1] at H
                      by_cases c9 : x33_2 < ((rd_L6 l0 x14_1).length : Int)
                      · rw [if_pos c9] at H
                        have c9b0 : decide (x33_2 < ((rd_L6 l0 x14_1).length : Int)) = true := decide_eq_true c9
                        clear c9
                        by_cases c10 : 0 ≤ x14_1
                        · rw [if_pos c10] at H
                          have c10b0 : decide (0 ≤ x14_1) = true := decide_eq_true c10
                          clear c10
                          by_cases c11 : x14_1 < (l0.length : Int)
                          · rw [if_pos c11] at H
                            have c11b0 : decide (x14_1 < (l0.length : Int)) = true := decide_eq_true c11
                            clear c11
                            by_cases c12 : 0 ≤ x33_2
                            · rw [if_pos c12] at H
                              have c12b0 : decide (0 ≤ x33_2) = true := decide_eq_true c12
                              clear c12
                              by_cases c13 : x33_2 < ((rd_L6 l0 x14_1).length : Int)
                              · rw [if_pos c13] at H
                                have c13b0 : decide (x33_2 < ((rd_L6 l0 x14_1).length : Int)) = true := decide_eq_true c13
                                clear c13
                                by_cases c14 : x14_1 < (l1.length : Int)
                                · rw [if_pos c14] at H
                                  have c14b0 : decide (x14_1 < (l1.length : Int)) = true := decide_eq_true c14
                                  clear c14
                                  by_cases c15 : x33_2 < ((rd_L6 l1 x14_1).length : Int)
                                  · rw [if_pos c15] at H
                                    have c15b0 : decide (x33_2 < ((rd_L6 l1 x14_1).length : Int)) = true := decide_eq_true c15
                                    clear c15
                                    by_cases c16 : ((rdOf false (rd_L6 l0 x14_1) x33_2) != (rdOf false (rd_L6 l1 x14_1) x33_2)) = true
                                    · rw [if_pos c16] at H
                                      have c16b0 : ((rdOf false (rd_L6 l0 x14_1) x33_2) != (rdOf false (rd_L6 l1 x14_1) x33_2)) = true := c16
                                      (try (have c16b1 : decide ((rdOf false (rd_L6 l0 x14_1) x33_2) = (rdOf false (rd_L6 l1 x14_1) x33_2)) = false := by simpa using c16))
                                      (try (have c16b2 : ((rdOf false (rd_L6 l0 x14_1) x33_2) == (rdOf false (rd_L6 l1 x14_1) x33_2)) = false := by simpa using c16))
                                      (try (have c16b3 : ¬ ((rdOf false (rd_L6 l0 x14_1) x33_2) = (rdOf false (rd_L6 l1 x14_1) x33_2)) := by simpa using c16))
                                      clear c16
                                      obtain rfl := Option.some.inj H
                                      have p147 : 0 ≤ (x14_1 : Int) := of_decide_eq_true (by first | (with_reducible assumption) | assumption)
                                      have q147 : x14_1 < (l0.length : Int) := of_decide_eq_true (by first | (with_reducible assumption) | assumption)
                                      obtain ⟨ad147, A147_0, c147_0, e147, hx147_0, hl147_0, hi147_0⟩ := at_L6 HR0.out x14_1 p147 q147
                                      obtain rfl : ad144 = ad147 := (by injection e147)
                                      have HR147_0 := Aside0.mk hi147_0
                                      have HC147_0 := Aside0.mk hl147_0
                                      clear hi147_0 hl147_0
                                      replace p147 := eq_true p147
                                      replace q147 := eq_true q147
                                      have p148 : 0 ≤ (x33_2 : Int) := of_decide_eq_true (by first | (with_reducible assumption) | assumption)
                                      have q148 : x33_2 < ((rd_L6 l0 x14_1).length : Int) := of_decide_eq_true (by first | (with_reducible assumption) | assumption)
                                      obtain ⟨ad148, e148, hx148_0⟩ := Kd.at_bool HR147_0.out x33_2 p148 q148
                                      cases e148
                                      replace p148 := eq_true p148
                                      replace q148 := eq_true q148
                                      have p149 : 0 ≤ (x14_1 : Int) := of_decide_eq_true (by first | (with_reducible assumption) | assumption)
                                      have q149 : x14_1 < (l1.length : Int) := of_decide_eq_true (by first | (with_reducible assumption) | assumption)
                                      obtain ⟨ad149, A149_0, c149_0, e149, hx149_0, hl149_0, hi149_0⟩ := at_L6 HR1.out x14_1 p149 q149
                                      obtain rfl : ad145 = ad149 := (by injection e149)
                                      have HR149_0 := Aside0.mk hi149_0
                                      have HC149_0 := Aside0.mk hl149_0
                                      clear hi149_0 hl149_0
                                      replace p149 := eq_true p149
                                      replace q149 := eq_true q149
                                      have p150 : 0 ≤ (x33_2 : Int) := of_decide_eq_true (by first | (with_reducible assumption) | assumption)
                                      have q150 : x33_2 < ((rd_L6 l1 x14_1).length : Int) := of_decide_eq_true (by first | (with_reducible assumption) | assumption)
                                      obtain ⟨ad150, e150, hx150_0⟩ := Kd.at_bool HR149_0.out x33_2 p150 q150
                                      cases e150
                                      replace p150 := eq_true p150
                                      replace q150 := eq_true q150
                                      go_wp2
                                      repeat (go_quiet (fail); try go_wp2)
                                      go_ret
                                      exact ⟨by first | rfl | (simp; done) | (simp [*]; done), by repeat (first | exact Drawn0.refl _ | apply Drawn0.step)⟩
                                    · rw [if_neg c16] at H
                                      have c16b0 : ((rdOf false (rd_L6 l0 x14_1) x33_2) != (rdOf false (rd_L6 l1 x14_1) x33_2)) = false := by simpa using c16
                                      (try (have c16b1 : decide ((rdOf false (rd_L6 l0 x14_1) x33_2) = (rdOf false (rd_L6 l1 x14_1) x33_2)) = true := by simpa using c16))
                                      (try (have c16b2 : ((rdOf false (rd_L6 l0 x14_1) x33_2) == (rdOf false (rd_L6 l1 x14_1) x33_2)) = true := by simpa using c16))
                                      clear c16
                                      have H' := Aside0.mk H
                                      clear H
                                      have p147 : 0 ≤ (x14_1 : Int) := of_decide_eq_true (by first | (with_reducible assumption) | assumption)
                                      have q147 : x14_1 < (l0.length : Int) := of_decide_eq_true (by first | (with_reducible assumption) | assumption)
                                      obtain ⟨ad147, A147_0, c147_0, e147, hx147_0, hl147_0, hi147_0⟩ := at_L6 HR0.out x14_1 p147 q147
                                      obtain rfl : ad144 = ad147 := (by injection e147)
                                      have HR147_0 := Aside0.mk hi147_0
                                      have HC147_0 := Aside0.mk hl147_0
                                      clear hi147_0 hl147_0
                                      replace p147 := eq_true p147
                                      replace q147 := eq_true q147
                                      have p148 : 0 ≤ (x33_2 : Int) := of_decide_eq_true (by first | (with_reducible assumption) | assumption)
                                      have q148 : x33_2 < ((rd_L6 l0 x14_1).length : Int) := of_decide_eq_true (by first | (with_reducible assumption) | assumption)
                                      obtain ⟨ad148, e148, hx148_0⟩ := Kd.at_bool HR147_0.out x33_2 p148 q148
                                      cases e148
                                      replace p148 := eq_true p148
                                      replace q148 := eq_true q148
                                      have p149 : 0 ≤ (x14_1 : Int) := of_decide_eq_true (by first | (with_reducible assumption) | assumption)
                                      have q149 : x14_1 < (l1.length : Int) := of_decide_eq_true (by first | (with_reducible assumption) | assumption)
                                      obtain ⟨ad149, A149_0, c149_0, e149, hx149_0, hl149_0, hi149_0⟩ := at_L6 HR1.out x14_1 p149 q149
                                      obtain rfl : ad145 = ad149 := (by injection e149)
                                      have HR149_0 := Aside0.mk hi149_0
                                      have HC149_0 := Aside0.mk hl149_0
                                      clear hi149_0 hl149_0
                                      replace p149 := eq_true p149
                                      replace q149 := eq_true q149
                                      have p150 : 0 ≤ (x33_2 : Int) := of_decide_eq_true (by first | (with_reducible assumption) | assumption)
                                      have q150 : x33_2 < ((rd_L6 l1 x14_1).length : Int) := of_decide_eq_true (by first | (with_reducible assumption) | assumption)
                                      obtain ⟨ad150, e150, hx150_0⟩ := Kd.at_bool HR149_0.out x33_2 p150 q150
                                      cases e150
                                      replace p150 := eq_true p150
                                      replace q150 := eq_true q150
                                      go_wp2
                                      repeat (go_quiet (fail); try go_wp2)
                                      go_roundg k2
                                      case measure => have := HK1.out; have := HK2.out; omega
                                      case rel => exact ⟨(wrap64 (x33_2 + 1)), (by first | rfl | (simp; done) | (simp [*]; done)), H', ⟨by have := HK1.out; have := HK2.out; omega⟩, by repeat (first | exact Drawn0.refl _ | apply Drawn0.step)⟩
                                  · rw [if_neg c15] at H
                                    exact absurd H (by simp)
                                · rw [if_neg c14] at H
                                  exact absurd H (by simp)
                              · rw [if_neg c13] at H
                                exact absurd H (by simp)
                            · rw [if_neg c12] at H
                              exact absurd H (by simp)
                          · rw [if_neg c11] at H
                            exact absurd H (by simp)
                        · rw [if_neg c10] at H
                          exact absurd H (by simp)
                      · rw [if_neg c9] at H
                        have c9b0 : decide (x33_2 < ((rd_L6 l0 x14_1).length : Int)) = false := decide_eq_false c9
                        clear c9
                        have H' := Aside0.mk H
                        clear H
                        go_wp2
                        repeat (go_quiet (fail); try go_wp2)
                        go_roundg k2
                        case measure => have := HK1.out; have := HK2.out; omega
                        case rel => exact ⟨(wrap64 (x14_1 + 1)), (by first | rfl | (simp; done) | (simp [*]; done)), H', ⟨by have := HK1.out; have := HK2.out; omega⟩, by repeat (first | exact Drawn0.refl _ | apply Drawn0.step)⟩
                · rw [if_neg c8] at H
                  have c8b0 : (((rd_L6 l0 x14_1).length : Int) == ((rd_L6 l1 x14_1).length : Int)) = false := beq_eq_false_iff_ne.mpr c8
                  have c8b1 : (((rd_L6 l0 x14_1).length : Int) != ((rd_L6 l1 x14_1).length : Int)) = true := bne_iff_ne.mpr c8
                  have c8b2 : ((rd_L6 l0 x14_1).length == (rd_L6 l1 x14_1).length) = false := by first | simpa using c8 | (simp at c8 ⊢; omega)
                  obtain rfl := Option.some.inj H
                  have p144 : 0 ≤ (x14_1 : Int) := of_decide_eq_true (by first | (with_reducible assumption) | assumption)
                  have q144 : x14_1 < (l0.length : Int) := of_decide_eq_true (by first | (with_reducible assumption) | assumption)
                  obtain ⟨ad144, A144_0, c144_0, e144, hx144_0, hl144_0, hi144_0⟩ := at_L6 HR0.out x14_1 p144 q144
                  cases e144
                  have HR144_0 := Aside0.mk hi144_0
                  have HC144_0 := Aside0.mk hl144_0
                  clear hi144_0 hl144_0
                  replace p144 := eq_true p144
                  replace q144 := eq_true q144
                  have p145 : 0 ≤ (x14_1 : Int) := of_decide_eq_true (by first | (with_reducible assumption) | assumption)
                  have q145 : x14_1 < (l1.length : Int) := of_decide_eq_true (by first | (with_reducible assumption) | assumption)
                  obtain ⟨ad145, A145_0, c145_0, e145, hx145_0, hl145_0, hi145_0⟩ := at_L6 HR1.out x14_1 p145 q145
                  cases e145
                  have HR145_0 := Aside0.mk hi145_0
                  have HC145_0 := Aside0.mk hl145_0
                  clear hi145_0 hl145_0
                  replace p145 := eq_true p145
                  replace q145 := eq_true q145
                  go_wp2
                  repeat (go_quiet (fail); try go_wp2)
                  go_ret
                  exact ⟨by first | rfl | (simp; done) | (simp [*]; done), by repeat (first | exact Drawn0.refl _ | apply Drawn0.step)⟩
              · rw [if_neg c7] at H
                exact absurd H (by simp)
            · rw [if_neg c6] at H
              exact absurd H (by simp)
          · rw [if_neg c5] at H
            exact absurd H (by simp)
        · rw [if_neg c4] at H
          have c4b0 : decide (x14_1 < (l0.length : Int)) = false := decide_eq_false c4
          clear c4
          obtain rfl := Option.some.inj H
          go_wp2
          repeat (go_quiet (fail); try go_wp2)
          go_ret
          exact ⟨by first | rfl | (simp; done) | (simp [*]; done), by repeat (first | exact Drawn0.refl _ | apply Drawn0.step)⟩
  · rw [if_neg c3] at H
    have c3b0 : ((l0.length : Int) == (l1.length : Int)) = false := beq_eq_false_iff_ne.mpr c3
    have c3b1 : ((l0.length : Int) != (l1.length : Int)) = true := bne_iff_ne.mpr c3
    have c3b2 : (l0.length == l1.length) = false := by first | simpa using c3 | (simp at c3 ⊢; omega)
    obtain rfl := Option.some.inj H
    go_enter Try.func59, Try.ntmps59
    go_wp2
    repeat (go_quiet (fail); try go_wp2)
    go_ret
    exact ⟨by first | rfl | (simp; done) | (simp [*]; done), by repeat (first | exact Drawn0.refl _ | apply Drawn0.step)⟩
end Go.Proofs.Ytefkhcijgiagdaa.K1
end
section
namespace Go.Proofs.Ytefkhcijgiagdaa.K1
open Go.RowKit Go.Proofs.YtefkhcijgiagdaaW.PrintWords Go.Proofs.YtefkhcijgiagdaaW.PrintLast Go.Proofs.YtefkhcijgiagdaaW.PrintMore
attribute [local go_sem] max2_int min2_int max_two min_two max_three min_three max_four min_four IntKind.wrap_u32 IntKind.wrap_u8   -- for this text's walks alone
set_option linter.unusedVariables false
open Go.Proofs.Ytefkhcijgiagdaa.Le Go.Proofs.Ytefkhcijgiagdaa.HKnown Go.Proofs.Ytefkhcijgiagdaa.HPut Go.Proofs.Ytefkhcijgiagdaa.I1 Go.Proofs.Ytefkhcijgiagdaa.E1 Go.Proofs.Ytefkhcijgiagdaa.HAsm Go.Proofs.Ytefkhcijgiagdaa.E2 Go.Proofs.Ytefkhcijgiagdaa.HAll Go.Proofs.Ytefkhcijgiagdaa.V0 Go.Proofs.Ytefkhcijgiagdaa.HVm Go.Proofs.Ytefkhcijgiagdaa.K0 Go.Proofs.Ytefkhcijgiagdaa.HCk Go.Proofs.Ytefkhcijgiagdaa.K3 Go.Proofs.Ytefkhcijgiagdaa.HRch
set_option linter.unusedSimpArgs false
mutual
def doorwardref12_Cells.j0 : Nat → List (S28) → Bool → Option ((List (List Bool)) × Int)
  | 0, _, _ => none
  | k + 1, x0, x26 => if x26 = true then (some (([] : List (List Bool)), 51)) else ((doorwardref12_reached.f x0 16).bind fun t103 => (doorwardref12_Cells.l0 k x0 t103 (([] : List (List Bool))) 0))
def doorwardref12_Cells.l0 : Nat → List (S28) → List Bool → List (List Bool) → Int → Option ((List (List Bool)) × Int)
  | 0, _, _, _, _ => none
  | k + 1, x0, x6, x7, x8 => if x8 < 16 then ((doorwardref12_reached.f x0 x8).bind fun t109 => (if x7.length < 5864062014805 then (doorwardref12_Cells.l0 k x0 x6 (x7 ++ [t109]) (wrap64 (x8 + 1))) else (none))) else (doorwardref12_Cells.l1 k x6 x7 (([] : List (List Bool))) (x0.length : Int) 0)
def doorwardref12_Cells.l1 : Nat → List Bool → List (List Bool) → List (List Bool) → Int → Int → Option ((List (List Bool)) × Int)
  | 0, _, _, _, _, _ => none
  | k + 1, x6, x7, x9, x42, x43 => if x43 < x42 then (doorwardref12_Cells.l2 k x6 x7 x9 x43 (([] : List Bool)) 0 x42 x43) else (some (x9, 0))
def doorwardref12_Cells.l2 : Nat → List Bool → List (List Bool) → List (List Bool) → Int → List Bool → Int → Int → Int → Option ((List (List Bool)) × Int)
  | 0, _, _, _, _, _, _, _, _ => none
  | k + 1, x6, x7, x9, x10, x11, x12, x42, x43 => if x12 < 16 then (if 0 ≤ x10 then (if x10 < (x6.length : Int) then (if rdOf false x6 x10 = true then (if 0 ≤ x12 then (if x12 < (x7.length : Int) then (if x10 < ((rd_L6 x7 x12).length : Int) then (if x11.length < 140737488355328 then (doorwardref12_Cells.l2 k x6 x7 x9 x10 (x11 ++ [!(rdOf false (rd_L6 x7 x12) x10)]) (wrap64 (x12 + 1)) x42 x43) else (none)) else (none)) else (none)) else (none)) else (if x9.length < 5864062014805 then (doorwardref12_Cells.l1 k x6 x7 (x9 ++ [x11]) x42 (wrap64 (x43 + 1))) else (none))) else (none)) else (none)) else (if x9.length < 5864062014805 then (doorwardref12_Cells.l1 k x6 x7 (x9 ++ [x11]) x42 (wrap64 (x43 + 1))) else (none))
end
def doorwardref12_Cells.f (k : Nat) (l0 : List (S28)) : Option ((List (List Bool)) × Int) := if (l0.length : Int) > 4096 then (some (([] : List (List Bool)), 2)) else ((doorwardref12_first.f k l0).bind fun bt101 => (if (l0.length : Int) = 0 then (doorwardref12_Cells.j0 k l0 true) else (doorwardref12_Cells.j0 k l0 bt101.2)))
set_option maxHeartbeats 8000000 in
set_option maxRecDepth 100000 in
theorem doorwardref12_Cells.calls (k : Nat) (A0 : Option Addr) (c0 : Nat) (l0 : List (S28)) (r1 : List (List Bool)) (r2 : Int) (w : World) (hr0 : Kd.C k28 w A0 l0.length l0) (hc0 : l0.length ≤ c0) (h : doorwardref12_Cells.f k l0 = some (r1, r2)) :
    Calls Try.prog 57 #[.slice A0 l0.length c0] w fun e w' => ∃ v0_ : Value, e = .returned (.tuple #[v0_, .int .i64 r2]) ∧ Kd.S (Kd.slice 4 Kd.bool) 120 w' w.heap.size (fun _ => True) v0_ r1 ∧ Below w.heap.size w w' := by
  have HR0 := Aside0.mk hr0
  have HC0 := Aside0.mk hc0
  clear hr0 hc0
  have HB := Aside0.mk (Below.refl w.heap.size w)
  have H : (if (l0.length : Int) > 4096 then (some (([] : List (List Bool)), 2)) else ((doorwardref12_first.f k l0).bind fun bt101 => (if (l0.length : Int) = 0 then (doorwardref12_Cells.j0 k l0 true) else (doorwardref12_Cells.j0 k l0 bt101.2)))) = some (r1, r2) := h
  clear h
  by_cases c2 : (l0.length : Int) > 4096
  · rw [if_pos c2] at H
    have c2b0 : decide (4096 < (l0.length : Int)) = true := decide_eq_true c2
    have c2b1 : decide (4096 < l0.length) = true := decide_eq_true (by omega)
    clear c2
    simp only [Option.some.injEq, Prod.mk.injEq] at H
    obtain ⟨rfl, rfl⟩ := H
    go_enter Try.func57, Try.ntmps57
    go_wp2
    go_ret2
    exact ⟨_, by first | rfl | (simp [errW_none, errW_some] <;> rfl) | (simp [*, errW_none, errW_some] <;> rfl), by first | exact Kd.S_nil _ _ _ _ _ | exact Kd.N_nil _ _ _ _ _ | exact Kd.V_nil _ _ _ _ _ | exact Kd.Q_nil _ _ _ _ _ | exact Kd.R_nil _ _ _ _ _, by repeat (first | (with_reducible first | exact HB.out | apply below_alloc | apply pw_below_drewN | apply below_drew1) | exact HB.out)⟩
  · rw [if_neg c2] at H
    have c2b0 : decide (4096 < (l0.length : Int)) = false := decide_eq_false c2
    have c2b1 : decide (4096 < l0.length) = false := decide_eq_false (by omega)
    clear c2
    replace H := Option.bind_eq_some_iff.mp H
    obtain ⟨⟨t101, t102⟩, A30, H⟩ := H
    replace H : (if (l0.length : Int) = 0 then (doorwardref12_Cells.j0 k l0 true) else (doorwardref12_Cells.j0 k l0 t102)) = some (r1, r2) := H
    have A3 := Aside0.mk A30
    clear A30
    have HC4 := Aside0.mk H
    clear H
    go_enter Try.func57, Try.ntmps57
    go_upto_region 4 with (first | ((with_reducible refine gate_callee (f := 100) rfl ?_); refine goesL_ (some 18) rfl rfl Try.func100 (by kernel_rfl) rfl #[.slice A0 l0.length c0] rfl (by (try simp only [List.map_toArray, List.map_cons, List.map_nil]); first | done | rfl | (simp only [List.length_drop, List.length_take]; rfl)) ?_; (with_reducible refine (doorwardref12_first.calls k _ _ l0 t101 t102 _ ?side1 ?side2 A3.out).mono ?_); (case side1 => repeat (first | exact HR0.out | (with_reducible refine Kd.C_alloc ?_ _) | (with_reducible refine Kd.C_drewN ?_ _) | (with_reducible refine Kd.C_drew ?_))); (case side2 => exact HC0.out); rintro e w5 ⟨rfl, hb⟩; refine ⟨_, rfl, ?_⟩; have n0_ := Aside0.mk (below_step (by repeat (first | (with_reducible first | exact HB.out | apply below_alloc | apply pw_below_drewN | apply below_drew1) | exact HB.out)) hb); clear HB; have HB := n0_; clear n0_; (try clear hb); (try clear hb2); (try clear hk); (try clear hi)))
    (try simp only [Act.put, List.setIfInBounds_toArray, List.set_cons_zero, List.set_cons_succ])
    go_cut [26] (fun v26 wc => ∃ (kq : Nat) (x26_3 : Bool), v26 = .bool x26_3 ∧ Aside0 (doorwardref12_Cells.j0 kq l0 x26_3 = some (r1, r2)) ∧ Aside0 (kq ≤ k) ∧ Aside0 (Below w.heap.size w wc))
    case first =>
      have H := HC4.out
      clear HC4
      by_cases c6 : (l0.length : Int) = 0
      · rw [if_pos c6] at H
        have c6b0 : ((l0.length : Int) == 0) = true := beq_iff_eq.mpr c6
        have c6b1 : ((l0.length : Int) != 0) = false := bne_eq_false_iff_eq.mpr c6
        clear c6
        (first | rw [c6b0] | (simp only [i64_w, i32_w]; rw [c6b0]) | skip)
        have H' := Aside0.mk H
        clear H
        go_wp2
        go_meet
        case rel => exact ⟨_, (true), (by first | rfl | (simp; done) | (simp [*]; done)), H', ⟨by first | omega | exact Nat.le_refl _⟩, ⟨by repeat (first | (with_reducible first | exact HB.out | apply below_alloc | apply pw_below_drewN | apply below_drew1) | exact HB.out)⟩⟩
      · rw [if_neg c6] at H
        have c6b0 : ((l0.length : Int) == 0) = false := beq_eq_false_iff_ne.mpr c6
        have c6b1 : ((l0.length : Int) != 0) = true := bne_iff_ne.mpr c6
        have c6b2 : ¬ (l0 = []) := fun h_ => c6 (by rw [h_]; rfl)
        (first | rw [c6b0] | (simp only [i64_w, i32_w]; rw [c6b0]) | skip)
        have H' := Aside0.mk H
        clear H
        go_wp2
        go_meet
        case rel => exact ⟨_, (t102), (by first | rfl | (simp; done) | (simp [*]; done)), H', ⟨by first | omega | exact Nat.le_refl _⟩, ⟨by repeat (first | (with_reducible first | exact HB.out | apply below_alloc | apply pw_below_drewN | apply below_drew1) | exact HB.out)⟩⟩
    case rest =>
      clear HC4
      try clear c1
      try clear c2
      try clear c2b0
      try clear c2b1
      try clear p2
      try clear c5
      try clear c6
      try clear c6b0
      try clear c6b1
      try clear c6b2
      obtain ⟨kq, x26_3, rfl, HA, HJ3, HB⟩ := hcut
      cases kq with
      | zero => exact absurd HA.out (by simp [doorwardref12_Cells.j0])
      | succ kj3 =>
        have H := HA.out
        clear HA
        simp only [doorwardref12_Cells.j0] at H
        by_cases c7 : x26_3 = true
        · subst c7
          have H1 : (some (([] : List (List Bool)), 51)) = some (r1, r2) := by rw [if_pos rfl] at H; exact H
          clear H
          have H := H1
          clear H1
          simp only [Option.some.injEq, Prod.mk.injEq] at H
          obtain ⟨rfl, rfl⟩ := H
          go_wp2
          go_ret2
          exact ⟨_, by first | rfl | (simp [errW_none, errW_some] <;> rfl) | (simp [*, errW_none, errW_some] <;> rfl), by first | exact Kd.S_nil _ _ _ _ _ | exact Kd.N_nil _ _ _ _ _ | exact Kd.V_nil _ _ _ _ _ | exact Kd.Q_nil _ _ _ _ _ | exact Kd.R_nil _ _ _ _ _, by repeat (first | (with_reducible first | exact HB.out | apply below_alloc | apply pw_below_drewN | apply below_drew1) | exact HB.out)⟩
        · replace c7 := Bool.eq_false_iff.mpr c7
          subst c7
          have H1 : ((doorwardref12_reached.f l0 16).bind fun t103 => (doorwardref12_Cells.l0 kj3 l0 t103 (([] : List (List Bool))) 0)) = some (r1, r2) := by rw [if_neg (show ¬ (false = true) by decide)] at H; exact H
          clear H
          have H := H1
          clear H1
          replace H := Option.bind_eq_some_iff.mp H
          obtain ⟨t103, A80, H⟩ := H
          replace H : (doorwardref12_Cells.l0 kj3 l0 t103 (([] : List (List Bool))) 0) = some (r1, r2) := H
          have A8 := Aside0.mk A80
          clear A80
          obtain ⟨y106, hy106⟩ : ∃ y_ : List (List Bool), y_ = (([] : List (List Bool))) := ⟨_, rfl⟩
          replace H : (doorwardref12_Cells.l0 kj3 l0 t103 y106 0) = some (r1, r2) := by first | (rw [hy106]; with_reducible exact H) | (have H2_ := (Option.bind_some _ _).symm.trans H; rw [hy106]; with_reducible exact H2_) | (have H2_ := (Option.bind_some _ _).symm.trans H; with_reducible exact H2_) | with_reducible exact H | (rw [hy106]; exact H) | exact H
          have Ny106 := Aside0.mk hy106
          clear hy106
          have H' := Aside0.mk H
          clear H
          go_wp2_with (first | ((with_reducible refine gate_callee (f := 103) rfl ?_); refine goesL_ (some 28) rfl rfl Try.func103 (by kernel_rfl) rfl #[.slice A0 l0.length c0, .int .i64 16] rfl (by (try simp only [List.map_toArray, List.map_cons, List.map_nil]); first | done | rfl | (simp only [List.length_drop, List.length_take]; rfl)) ?_; (with_reducible refine (doorwardref12_reached.calls _ _ l0 16 t103 _ ?side1 ?side2 A8.out).mono ?_); (case side1 => repeat (first | exact (Kd.C_below HR0.out HB.out) | (with_reducible refine Kd.C_alloc ?_ _) | (with_reducible refine Kd.C_drewN ?_ _) | (with_reducible refine Kd.C_drew ?_))); (case side2 => exact HC0.out); rintro e w9 ⟨v104, rfl, ho0, hb⟩; refine ⟨_, rfl, ?_⟩; have n0_ := Aside0.mk (Kd.R_lower ho0 (below_size (by repeat (first | (with_reducible first | exact HB.out | apply below_alloc | apply pw_below_drewN | apply below_drew1) | exact HB.out)))); have n1_ := Aside0.mk (below_step (by repeat (first | (with_reducible first | exact HB.out | apply below_alloc | apply pw_below_drewN | apply below_drew1) | exact HB.out)) hb); clear HB; have HO105 := n0_; have HB := n1_; clear n0_ n1_; (try clear hb); (try clear hb2); (try clear hk); (try clear hi); (try clear ho0)) | ((with_reducible refine gate_dst (N := 29) rfl ?_); refine Kd.S_lit (Kd.slice 4 Kd.bool) _ 120 ?hg (N := 29) ?hd (xs := ([] : List (List Bool))) (inner := []) (ok := fun _ => True) (okp := fun _ => True) ?hr ?hp (fun _ hk => hk) trivial (Below.refl _ _) (Nat.le_refl _) (by simp) ?_; (case hd => rfl); (case hg => rfl); (case hr => first | (go_simp; done) | (go_simp; rfl)); (case hp => exact (Reps.none _ _)); intro v107 w10 ho11 hb hg_ hnew_; clear hg_ hnew_; (first | rw [← Ny106.out] at ho11 | (simp only [Int.reduceToNat] at ho11; rw [← Ny106.out] at ho11)); have n0_ := Aside0.mk (Kd.R_below (by (with_reducible repeat (first | apply Kd.R_alloc | apply Kd.R_drewN | apply Kd.R_drew)); exact HO105.out) hb); have n1_ := Aside0.mk (Kd.S_lower (Kd.S_new' ho11 (Kd.R_lt (by (with_reducible repeat (first | apply Kd.R_alloc | apply Kd.R_drewN | apply Kd.R_drew)); exact HO105.out))) (below_size (by repeat (first | (with_reducible first | exact HB.out | apply below_alloc | apply pw_below_drewN | apply below_drew1) | exact HB.out)))); have n2_ := Aside0.mk (below_step (by repeat (first | (with_reducible first | exact HB.out | apply below_alloc | apply pw_below_drewN | apply below_drew1) | exact HB.out)) hb); clear HO105; clear HB; have HO105 := n0_; have HO108 := n1_; have HB := n2_; clear n0_ n1_ n2_; clear hb ho11))
          go_loopg [7, 8] kj3 (fun kq v7 v8 w' => ∃ (x7_2 : List (List Bool)) (x8_2 : Int), v8 = .int .i64 x8_2 ∧ Aside0 (doorwardref12_Cells.l0 kq l0 t103 x7_2 x8_2 = some (r1, r2)) ∧ Aside0 (kq ≤ kj3) ∧ Aside0 (Kd.R Kd.bool 4 w' w.heap.size (fun _ => True) v104 t103) ∧ Aside0 (Kd.S (Kd.slice 4 Kd.bool) 120 w' w.heap.size (fun k_ => some k_ ≠ (v104 : Value).ownBlock) v7 x7_2) ∧ Aside0 (Below w.heap.size w w'))
          case atStart => exact ⟨(y106), (0), (by first | rfl | (simp; done) | (simp [*]; done)), H', ⟨Nat.le_refl _⟩, ⟨by (with_reducible repeat (first | apply Kd.R_alloc | apply Kd.R_drewN | apply Kd.R_drew)); exact HO105.out⟩, ⟨by (with_reducible repeat (first | apply Kd.S_alloc | apply Kd.S_drewN | apply Kd.S_drew)); exact Kd.S_mono HO108.out (fun _ hk => hk.2)⟩, ⟨by repeat (first | (with_reducible first | exact HB.out | apply below_alloc | apply pw_below_drewN | apply below_drew1) | exact HB.out)⟩⟩
          case round =>
            clear H'
            try clear c1
            try clear c2
            try clear c2b0
            try clear c2b1
            try clear p2
            try clear c5
            try clear c6
            try clear c6b0
            try clear c6b1
            try clear c6b2
            try clear c7
            try clear c10
            try clear p2
            obtain ⟨x7_2, x8_2, rfl, HA, HK2, HO_6, HO_7, HB⟩ := hrel
            cases gk with
            | zero => exact absurd HA.out (by simp [doorwardref12_Cells.l0])
            | succ k2 =>
              have H := HA.out
              clear HA
              simp only [doorwardref12_Cells.l0] at H
              by_cases c12 : x8_2 < 16
              · rw [if_pos c12] at H
                have c12b0 : decide (x8_2 < 16) = true := decide_eq_true c12
                clear c12
                replace H := Option.bind_eq_some_iff.mp H
                obtain ⟨t109, A130, H⟩ := H
                replace H : (if x7_2.length < 5864062014805 then (doorwardref12_Cells.l0 k2 l0 t103 (x7_2 ++ [t109]) (wrap64 (x8_2 + 1))) else (none)) = some (r1, r2) := H
                have A13 := Aside0.mk A130
                clear A130
                by_cases c14 : x7_2.length < 5864062014805
                · rw [if_pos c14] at H
                  have LMc14 := Aside0.mk c14
                  clear c14
                  obtain ⟨y112, hy112⟩ : ∃ y_ : List (List Bool), y_ = (x7_2 ++ [t109]) := ⟨_, rfl⟩
                  replace H : (doorwardref12_Cells.l0 k2 l0 t103 y112 (wrap64 (x8_2 + 1))) = some (r1, r2) := by first | (rw [hy112]; with_reducible exact H) | (have H2_ := (Option.bind_some _ _).symm.trans H; rw [hy112]; with_reducible exact H2_) | (have H2_ := (Option.bind_some _ _).symm.trans H; with_reducible exact H2_) | with_reducible exact H | (rw [hy112]; exact H) | exact H
                  have Ny112 := Aside0.mk hy112
                  clear hy112
                  have H' := Aside0.mk H
                  clear H
                  go_wp2_with (first | ((with_reducible refine gate_callee (f := 103) rfl ?_); refine goesL_ (some 37) rfl rfl Try.func103 (by kernel_rfl) rfl #[.slice A0 l0.length c0, .int .i64 x8_2] rfl (by (try simp only [List.map_toArray, List.map_cons, List.map_nil]); first | done | rfl | (simp only [List.length_drop, List.length_take]; rfl)) ?_; (with_reducible refine (doorwardref12_reached.calls _ _ l0 x8_2 t109 _ ?side1 ?side2 A13.out).mono ?_); (case side1 => repeat (first | exact (Kd.C_below HR0.out HB.out) | (with_reducible refine Kd.C_alloc ?_ _) | (with_reducible refine Kd.C_drewN ?_ _) | (with_reducible refine Kd.C_drew ?_))); (case side2 => exact HC0.out); rintro e w15 ⟨v110, rfl, ho0, hb⟩; refine ⟨_, rfl, ?_⟩; have n0_ := Aside0.mk (Kd.R_elder' (by (with_reducible repeat (first | apply Kd.R_alloc | apply Kd.R_drewN | apply Kd.R_drew)); exact HO_6.out) (Kd.R_base ho0) hb); have n1_ := Aside0.mk (Kd.S_elder' (by (with_reducible repeat (first | apply Kd.S_alloc | apply Kd.S_drewN | apply Kd.S_drew)); exact HO_7.out) (Kd.R_base ho0) hb); have n2_ := Aside0.mk (Kd.R_lower (Kd.R_new' ho0 (Kd.R_lt (by (with_reducible repeat (first | apply Kd.R_alloc | apply Kd.R_drewN | apply Kd.R_drew)); exact HO_6.out))) (below_size (by repeat (first | (with_reducible first | exact HB.out | apply below_alloc | apply pw_below_drewN | apply below_drew1) | exact HB.out)))); have n3_ := Aside0.mk (below_step (by repeat (first | (with_reducible first | exact HB.out | apply below_alloc | apply pw_below_drewN | apply below_drew1) | exact HB.out)) hb); clear HO_6; clear HO_7; clear HB; have HO_6 := n0_; have HO_7 := n1_; have HO111 := n2_; have HB := n3_; clear n0_ n1_ n2_ n3_; (try clear hb); (try clear hb2); (try clear hk); (try clear hi); (try clear ho0); obtain ⟨Ao17, co17, eo17⟩ := Kd.R_slice HO111.out; subst eo17) | ((with_reducible refine gate_builtin (b := .append) (xs := #[.tmp 34, .tmp 38]) rfl ?_); at_builtin; refine Kd.S_append (Kd.slice 4 Kd.bool) (w0 := w) w.heap.size rfl (.tmp 34) (.tmp 38) 57 120 (.slice none 0 0) 24 rfl Try.underlying57 info120 rfl (by decide) (by omega) u7 x7_2 t109 [.slice Ao17 t109.length co17] (fun k_ => some k_ ≠ (v104 : Value).ownBlock) (fun k_ => some k_ = (.slice Ao17 t109.length co17 : Value).ownBlock) rfl rfl ?aP (fun k_ hk_ => ((Kd.R_mono (ok' := fun k_ => ((fun k_ => some k_ ≠ (v104 : Value).ownBlock)) k_ ∧ some k_ ≠ (u7 : Value).ownBlock) (Kd.R_apart' (HO111.out) (Kd.S_typed HO_7.out) (by decide)) (fun k_ hk => ⟨hk.1.2, hk.2⟩))).1 k_ hk_.symm) ?aF ?aO ?aB ?aS ?aL ?_; (case aP => exact Kd.M_row (Kd.R_mono (Kd.R_tight rfl (Kd.R_mono (ok' := fun k_ => ((fun k_ => some k_ ≠ (v104 : Value).ownBlock)) k_ ∧ some k_ ≠ (u7 : Value).ownBlock) (Kd.R_apart' (HO111.out) (Kd.S_typed HO_7.out) (by decide)) (fun k_ hk => ⟨hk.1.2, hk.2⟩))) (fun _ h_ => h_))); (case aB => exact (by repeat (first | (with_reducible first | exact HB.out | apply below_alloc | apply pw_below_drewN | apply below_drew1) | exact HB.out))); (case aF => exact (fun k_ hk => Kd.fresh' (Kd.R_lt (by (with_reducible repeat (first | apply Kd.R_alloc | apply Kd.R_drewN | apply Kd.R_drew)); exact HO_6.out)) k_ hk)); (case aO => exact (by (with_reducible repeat (first | apply Kd.S_alloc | apply Kd.S_drewN | apply Kd.S_drew)); exact Kd.S_mono HO_7.out (fun k_ hk => ⟨hk.1, fun e_ => hk.2 e_⟩))); (case aS => exact (below_size (by repeat (first | (with_reducible first | exact HB.out | apply below_alloc | apply pw_below_drewN | apply below_drew1) | exact HB.out)))); (case aL => have := LMc14.out; omega); intro v113 w16 ho hb hg hat; rw [← Ny112.out] at ho; have n0_ := Aside0.mk (Kd.R_over' (by (with_reducible repeat (first | apply Kd.R_alloc | apply Kd.R_drewN | apply Kd.R_drew)); exact HO_6.out) (Kd.S_typed (by (with_reducible repeat (first | apply Kd.S_alloc | apply Kd.S_drewN | apply Kd.S_drew)); exact HO_7.out)) (by decide) hg); have n1_ := Aside0.mk (hb); have n2_ := Aside0.mk (ho); clear HO_6; clear HB; clear HO_7; clear HO111; have HO_6 := n0_; have HB := n1_; have HO114 := n2_; clear n0_ n1_ n2_; clear ho hb hg hat))
                  go_roundg k2
                  case measure => have := HJ3.out; have := HK2.out; omega
                  case rel => exact ⟨(y112), (wrap64 (x8_2 + 1)), (by first | rfl | (simp; done) | (simp [*]; done)), H', ⟨by have := HJ3.out; have := HK2.out; omega⟩, ⟨by (with_reducible repeat (first | apply Kd.R_alloc | apply Kd.R_drewN | apply Kd.R_drew)); exact Kd.R_mono HO_6.out (fun _ hk => trivial)⟩, ⟨by (with_reducible repeat (first | apply Kd.S_alloc | apply Kd.S_drewN | apply Kd.S_drew)); exact HO114.out⟩, ⟨by repeat (first | (with_reducible first | exact HB.out | apply below_alloc | apply pw_below_drewN | apply below_drew1) | exact HB.out)⟩⟩
                · rw [if_neg c14] at H
                  exact absurd H (by simp)
              · rw [if_neg c12] at H
                have c12b0 : decide (x8_2 < 16) = false := decide_eq_false c12
                clear c12
                obtain ⟨y115, hy115⟩ : ∃ y_ : List (List Bool), y_ = (([] : List (List Bool))) := ⟨_, rfl⟩
                replace H : (doorwardref12_Cells.l1 k2 t103 x7_2 y115 (l0.length : Int) 0) = some (r1, r2) := by first | (rw [hy115]; with_reducible exact H) | (have H2_ := (Option.bind_some _ _).symm.trans H; rw [hy115]; with_reducible exact H2_) | (have H2_ := (Option.bind_some _ _).symm.trans H; with_reducible exact H2_) | with_reducible exact H | (rw [hy115]; exact H) | exact H
                have Ny115 := Aside0.mk hy115
                clear hy115
                have H' := Aside0.mk H
                clear H
                go_wp2_with (first | ((with_reducible refine gate_dst (N := 40) rfl ?_); refine Kd.S_lit (Kd.slice 4 Kd.bool) _ 120 ?hg (N := 40) ?hd (xs := ([] : List (List Bool))) (inner := []) (ok := fun _ => True) (okp := fun _ => True) ?hr ?hp (fun _ hk => hk) trivial (Below.refl _ _) (Nat.le_refl _) (by simp) ?_; (case hd => rfl); (case hg => rfl); (case hr => first | (go_simp; done) | (go_simp; rfl)); (case hp => exact (Reps.none _ _)); intro v116 w18 ho19 hb hg_ hnew_; clear hg_ hnew_; (first | rw [← Ny115.out] at ho19 | (simp only [Int.reduceToNat] at ho19; rw [← Ny115.out] at ho19)); have n0_ := Aside0.mk (Kd.R_below (by (with_reducible repeat (first | apply Kd.R_alloc | apply Kd.R_drewN | apply Kd.R_drew)); exact HO_6.out) hb); have n1_ := Aside0.mk (Kd.S_elder' (by (with_reducible repeat (first | apply Kd.S_alloc | apply Kd.S_drewN | apply Kd.S_drew)); exact HO_7.out) (Kd.S_base ho19) hb); have n2_ := Aside0.mk (Kd.S_lower (Kd.S_new' (Kd.S_new' ho19 (Kd.R_lt (by (with_reducible repeat (first | apply Kd.R_alloc | apply Kd.R_drewN | apply Kd.R_drew)); exact HO_6.out))) (Kd.S_lt (by (with_reducible repeat (first | apply Kd.S_alloc | apply Kd.S_drewN | apply Kd.S_drew)); exact HO_7.out))) (below_size (by repeat (first | (with_reducible first | exact HB.out | apply below_alloc | apply pw_below_drewN | apply below_drew1) | exact HB.out)))); have n3_ := Aside0.mk (below_step (by repeat (first | (with_reducible first | exact HB.out | apply below_alloc | apply pw_below_drewN | apply below_drew1) | exact HB.out)) hb); clear HO_6; clear HO_7; clear HB; have HO_6 := n0_; have HO_7 := n1_; have HO117 := n2_; have HB := n3_; clear n0_ n1_ n2_ n3_; clear hb ho19))
                go_loopg [9, 43] k2 (fun kq v9 v43 w' => ∃ (x9_3 : List (List Bool)) (x43_3 : Int), v43 = .int .i64 x43_3 ∧ Aside0 (doorwardref12_Cells.l1 kq t103 x7_2 x9_3 (l0.length : Int) x43_3 = some (r1, r2)) ∧ Aside0 (kq ≤ k2) ∧ Aside0 (Kd.R Kd.bool 4 w' w.heap.size (fun _ => True) v104 t103) ∧ Aside0 (Kd.S (Kd.slice 4 Kd.bool) 120 w' w.heap.size (fun k_ => some k_ ≠ (v104 : Value).ownBlock ∧ some k_ ≠ (v9 : Value).ownBlock) u7 x7_2) ∧ Aside0 (Kd.S (Kd.slice 4 Kd.bool) 120 w' w.heap.size (fun k_ => some k_ ≠ (v104 : Value).ownBlock ∧ some k_ ≠ (u7 : Value).ownBlock) v9 x9_3) ∧ Aside0 (Below w.heap.size w w'))
                case atStart => exact ⟨(y115), (0), (by first | rfl | (simp; done) | (simp [*]; done)), H', ⟨Nat.le_refl _⟩, ⟨by (with_reducible repeat (first | apply Kd.R_alloc | apply Kd.R_drewN | apply Kd.R_drew)); exact HO_6.out⟩, ⟨by (with_reducible repeat (first | apply Kd.S_alloc | apply Kd.S_drewN | apply Kd.S_drew)); exact HO_7.out⟩, ⟨by (with_reducible repeat (first | apply Kd.S_alloc | apply Kd.S_drewN | apply Kd.S_drew)); exact Kd.S_mono HO117.out (fun _ hk => ⟨hk.1.2, hk.2⟩)⟩, ⟨by repeat (first | (with_reducible first | exact HB.out | apply below_alloc | apply pw_below_drewN | apply below_drew1) | exact HB.out)⟩⟩
                case round =>
                  clear H'
                  try clear c1
                  try clear c2
                  try clear c2b0
                  try clear c2b1
                  try clear p2
                  try clear c5
                  try clear c6
                  try clear c6b0
                  try clear c6b1
                  try clear c6b2
                  try clear p6
                  try clear c7
                  try clear c10
                  try clear c12
                  try clear c12b0
                  try clear c14
                  try clear p2
                  obtain ⟨x9_3, x43_3, rfl, HA, HK3, HO_6, HO_7, HO_9, HB⟩ := hrel
                  cases gk with
                  | zero => exact absurd HA.out (by simp [doorwardref12_Cells.l1])
                  | succ k3 =>
                    have H := HA.out
                    clear HA
                    simp only [doorwardref12_Cells.l1] at H
                    by_cases c20 : x43_3 < (l0.length : Int)
                    · rw [if_pos c20] at H
                      have c20b0 : decide (x43_3 < (l0.length : Int)) = true := decide_eq_true c20
                      clear c20
                      obtain ⟨y118, hy118⟩ : ∃ y_ : List Bool, y_ = (([] : List Bool)) := ⟨_, rfl⟩
                      replace H : (doorwardref12_Cells.l2 k3 t103 x7_2 x9_3 x43_3 y118 0 (l0.length : Int) x43_3) = some (r1, r2) := by first | (rw [hy118]; with_reducible exact H) | (have H2_ := (Option.bind_some _ _).symm.trans H; rw [hy118]; with_reducible exact H2_) | (have H2_ := (Option.bind_some _ _).symm.trans H; with_reducible exact H2_) | with_reducible exact H | (rw [hy118]; exact H) | exact H
                      have Ny118 := Aside0.mk hy118
                      clear hy118
                      have H' := Aside0.mk H
                      clear H
                      go_wp2_with (first | ((with_reducible refine gate_dst (N := 46) rfl ?_); refine Kd.R_lit Kd.bool _ 4 ?hg (N := 46) ?hd (xs := ([] : List Bool)) (inner := []) (ok := fun _ => True) (okp := fun _ => True) ?hr ?hp (fun _ hk => hk) trivial (Below.refl _ _) (Nat.le_refl _) (by simp) ?_; (case hd => rfl); (case hg => rfl); (case hr => first | (go_simp; done) | (go_simp; rfl)); (case hp => exact (Reps.none _ _)); intro v119 w21 ho22 hb hg_ hnew_; clear hg_ hnew_; (first | rw [← Ny118.out] at ho22 | (simp only [Int.reduceToNat] at ho22; rw [← Ny118.out] at ho22)); have n0_ := Aside0.mk (Kd.R_elder' (by (with_reducible repeat (first | apply Kd.R_alloc | apply Kd.R_drewN | apply Kd.R_drew)); exact HO_6.out) (Kd.R_base ho22) hb); have n1_ := Aside0.mk (Kd.S_elder' (by (with_reducible repeat (first | apply Kd.S_alloc | apply Kd.S_drewN | apply Kd.S_drew)); exact HO_7.out) (Kd.R_base ho22) hb); have n2_ := Aside0.mk (Kd.S_elder' (by (with_reducible repeat (first | apply Kd.S_alloc | apply Kd.S_drewN | apply Kd.S_drew)); exact HO_9.out) (Kd.R_base ho22) hb); have n3_ := Aside0.mk (Kd.R_lower (Kd.R_new' ho22 (Kd.R_lt (by (with_reducible repeat (first | apply Kd.R_alloc | apply Kd.R_drewN | apply Kd.R_drew)); exact HO_6.out))) (below_size (by repeat (first | (with_reducible first | exact HB.out | apply below_alloc | apply pw_below_drewN | apply below_drew1) | exact HB.out)))); have n4_ := Aside0.mk (below_step (by repeat (first | (with_reducible first | exact HB.out | apply below_alloc | apply pw_below_drewN | apply below_drew1) | exact HB.out)) hb); clear HO_6; clear HO_7; clear HO_9; clear HB; have HO_6 := n0_; have HO_7 := n1_; have HO_9 := n2_; have HO120 := n3_; have HB := n4_; clear n0_ n1_ n2_ n3_ n4_; clear hb ho22))
                      go_loopg [11, 12] k3 (fun kq v11 v12 w' => ∃ (x11_4 : List Bool) (x12_4 : Int), v12 = .int .i64 x12_4 ∧ Aside0 (doorwardref12_Cells.l2 kq t103 x7_2 x9_3 x43_3 x11_4 x12_4 (l0.length : Int) x43_3 = some (r1, r2)) ∧ Aside0 (kq ≤ k3) ∧ Aside0 (Kd.R Kd.bool 4 w' w.heap.size (fun k_ => some k_ ≠ (v11 : Value).ownBlock) v104 t103) ∧ Aside0 (Kd.S (Kd.slice 4 Kd.bool) 120 w' w.heap.size (fun k_ => some k_ ≠ (v104 : Value).ownBlock ∧ some k_ ≠ (u9 : Value).ownBlock ∧ some k_ ≠ (v11 : Value).ownBlock) u7 x7_2) ∧ Aside0 (Kd.S (Kd.slice 4 Kd.bool) 120 w' w.heap.size (fun k_ => some k_ ≠ (v104 : Value).ownBlock ∧ some k_ ≠ (u7 : Value).ownBlock ∧ some k_ ≠ (v11 : Value).ownBlock) u9 x9_3) ∧ Aside0 (Kd.R Kd.bool 4 w' w.heap.size (fun k_ => some k_ ≠ (v104 : Value).ownBlock) v11 x11_4) ∧ Aside0 (Below w.heap.size w w'))
                      case atStart => exact ⟨(y118), (0), (by first | rfl | (simp; done) | (simp [*]; done)), H', ⟨Nat.le_refl _⟩, ⟨by (with_reducible repeat (first | apply Kd.R_alloc | apply Kd.R_drewN | apply Kd.R_drew)); exact Kd.R_mono HO_6.out (fun _ hk => hk.2)⟩, ⟨by (with_reducible repeat (first | apply Kd.S_alloc | apply Kd.S_drewN | apply Kd.S_drew)); exact Kd.S_mono HO_7.out (fun _ hk => ⟨hk.1.1, ⟨hk.1.2, hk.2⟩⟩)⟩, ⟨by (with_reducible repeat (first | apply Kd.S_alloc | apply Kd.S_drewN | apply Kd.S_drew)); exact Kd.S_mono HO_9.out (fun _ hk => ⟨hk.1.1, ⟨hk.1.2, hk.2⟩⟩)⟩, ⟨by (with_reducible repeat (first | apply Kd.R_alloc | apply Kd.R_drewN | apply Kd.R_drew)); exact Kd.R_mono HO120.out (fun _ hk => hk.2)⟩, ⟨by repeat (first | (with_reducible first | exact HB.out | apply below_alloc | apply pw_below_drewN | apply below_drew1) | exact HB.out)⟩⟩
                      case round =>
                        clear H'
                        try clear c1
                        try clear c2
                        try clear c2b0
                        try clear c2b1
                        try clear p2
                        try clear c5
                        try clear c6
                        try clear c6b0
                        try clear c6b1
                        try clear c6b2
                        try clear p6
                        try clear c7
                        try clear c10
                        try clear c12
                        try clear c12b0
                        try clear c14
                        try clear c20
                        try clear c20b0
                        try clear p2
                        try clear p6
                        obtain ⟨x11_4, x12_4, rfl, HA, HK4, HO_6, HO_7, HO_9, HO_11, HB⟩ := hrel
                        cases gk with
                        | zero => exact absurd HA.out (by simp [doorwardref12_Cells.l2])
                        | succ k4 =>
                          have H := HA.out
                          clear HA
                          simp only [doorwardref12_Cells.l2] at H
                          by_cases c23 : x12_4 < 16
                          · rw [if_pos c23] at H
                            have c23b0 : decide (x12_4 < 16) = true := decide_eq_true c23
                            clear c23
                            by_cases c24 : 0 ≤ x43_3
                            · rw [if_pos c24] at H
                              have c24b0 : decide (0 ≤ x43_3) = true := decide_eq_true c24
                              clear c24
                              by_cases c25 : x43_3 < (t103.length : Int)
                              · rw [if_pos c25] at H
                                have c25b0 : decide (x43_3 < (t103.length : Int)) = true := decide_eq_true c25
                                clear c25
                                obtain ⟨bq26, hbq26⟩ : ∃ b_ : Bool, b_ = (rdOf false t103 x43_3) := ⟨_, rfl⟩
                                replace H : (if bq26 = true then (if 0 ≤ x12_4 then (if x12_4 < (x7_2.length : Int) then (if x43_3 < ((rd_L6 x7_2 x12_4).length : Int) then (if x11_4.length < 140737488355328 then (doorwardref12_Cells.l2 k4 t103 x7_2 x9_3 x43_3 (x11_4 ++ [!(rdOf false (rd_L6 x7_2 x12_4) x43_3)]) (wrap64 (x12_4 + 1)) (l0.length : Int) x43_3) else (none)) else (none)) else (none)) else (none)) else (if x9_3.length < 5864062014805 then (doorwardref12_Cells.l1 k4 t103 x7_2 (x9_3 ++ [x11_4]) (l0.length : Int) (wrap64 (x43_3 + 1))) else (none))) = some (r1, r2) := by rw [← hbq26] at H; exact H
                                have Nbq26 := Aside0.mk hbq26
                                clear hbq26
                                by_cases c27 : bq26 = true
                                · subst c27
                                  have H1 : (if 0 ≤ x12_4 then (if x12_4 < (x7_2.length : Int) then (if x43_3 < ((rd_L6 x7_2 x12_4).length : Int) then (if x11_4.length < 140737488355328 then (doorwardref12_Cells.l2 k4 t103 x7_2 x9_3 x43_3 (x11_4 ++ [!(rdOf false (rd_L6 x7_2 x12_4) x43_3)]) (wrap64 (x12_4 + 1)) (l0.length : Int) x43_3) else (none)) else (none)) else (none)) else (none)) = some (r1, r2) := by rw [if_pos rfl] at H; exact H
                                  clear H
                                  have H := H1
                                  clear H1
                                  by_cases c28 : 0 ≤ x12_4
                                  · rw [if_pos c28] at H
                                    have c28b0 : decide (0 ≤ x12_4) = true := decide_eq_true c28
                                    clear c28
                                    by_cases c29 : x12_4 < (x7_2.length : Int)
                                    · rw [if_pos c29] at H
                                      have c29b0 : decide (x12_4 < (x7_2.length : Int)) = true := decide_eq_true c29
                                      clear c29
                                      by_cases c30 : x43_3 < ((rd_L6 x7_2 x12_4).length : Int)
                                      · rw [if_pos c30] at H
                                        have c30b0 : decide (x43_3 < ((rd_L6 x7_2 x12_4).length : Int)) = true := decide_eq_true c30
                                        clear c30
                                        by_cases c31 : x11_4.length < 140737488355328
                                        · rw [if_pos c31] at H
                                          have LMc31 := Aside0.mk c31
                                          clear c31
                                          obtain ⟨y124, hy124⟩ : ∃ y_ : List Bool, y_ = (x11_4 ++ [!(rdOf false (rd_L6 x7_2 x12_4) x43_3)]) := ⟨_, rfl⟩
                                          replace H : (doorwardref12_Cells.l2 k4 t103 x7_2 x9_3 x43_3 y124 (wrap64 (x12_4 + 1)) (l0.length : Int) x43_3) = some (r1, r2) := by first | (rw [hy124]; with_reducible exact H) | (have H2_ := (Option.bind_some _ _).symm.trans H; rw [hy124]; with_reducible exact H2_) | (have H2_ := (Option.bind_some _ _).symm.trans H; with_reducible exact H2_) | with_reducible exact H | (rw [hy124]; exact H) | exact H
                                          have Ny124 := Aside0.mk hy124
                                          clear hy124
                                          have H' := Aside0.mk H
                                          clear H
                                          obtain ⟨Ao32, co32, eo32⟩ := Kd.R_slice HO_6.out
                                          subst eo32
                                          have p121 : 0 ≤ (x43_3 : Int) := of_decide_eq_true (by first | (with_reducible assumption) | assumption)
                                          have q121 : x43_3 < (t103.length : Int) := of_decide_eq_true (by first | (with_reducible assumption) | assumption)
                                          obtain ⟨ad121, e121, hx121_0⟩ := Kd.at_bool (Kd.R_reads' HO_6.out).2.2 x43_3 p121 q121
                                          (try rw [← Nbq26.out] at hx121_0)
                                          cases e121
                                          replace p121 := eq_true p121
                                          replace q121 := eq_true q121
                                          obtain ⟨Ao33, co33, eo33⟩ := Kd.S_slice HO_7.out
                                          subst eo33
                                          have p122 : 0 ≤ (x12_4 : Int) := of_decide_eq_true (by first | (with_reducible assumption) | assumption)
                                          have q122 : x12_4 < (x7_2.length : Int) := of_decide_eq_true (by first | (with_reducible assumption) | assumption)
                                          obtain ⟨ad122, A122_0, c122_0, e122, hx122_0, hl122_0, hi122_0⟩ := at_L6 (Kd.S_reads' HO_7.out).2.2 x12_4 p122 q122
                                          cases e122
                                          obtain ⟨ce122, hce122, hMe122, hcc122⟩ := Kd.S_get HO_7.out [] x12_4 p122 (by first | exact q122 | exact of_decide_eq_true (by first | (with_reducible assumption) | assumption) | (have e_ := (Kd.S_reads' HO_7.out).1; omega))
                                          obtain ⟨ve122_0, rfl, ge122_0⟩ := hMe122
                                          have hv122_0 := hcc122 0 _ rfl
                                          rw [Nat.add_zero, show ((Kd.slice 4 Kd.bool)).sz = 1 from rfl, Nat.mul_one] at hv122_0
                                          replace hv122_0 := Option.some.inj (hv122_0.symm.trans hx122_0)
                                          rw [hv122_0] at ge122_0
                                          have HL122_0 := Aside0.mk (show Kd.R Kd.bool 4 _ _ _ _ (rd_L6 x7_2 x12_4) from ge122_0)
                                          clear hv122_0 ge122_0
                                          clear hcc122 hce122
                                          have HR122_0 := Aside0.mk hi122_0
                                          have HC122_0 := Aside0.mk hl122_0
                                          clear hi122_0 hl122_0
                                          replace p122 := eq_true p122
                                          replace q122 := eq_true q122
                                          have p123 : 0 ≤ (x43_3 : Int) := of_decide_eq_true (by first | (with_reducible assumption) | assumption)
                                          have q123 : x43_3 < ((rd_L6 x7_2 x12_4).length : Int) := of_decide_eq_true (by first | (with_reducible assumption) | assumption)
                                          obtain ⟨ad123, e123, hx123_0⟩ := Kd.at_bool (by repeat (first | (with_reducible exact HR122_0.out) | (with_reducible refine Kd.C_alloc ?_ _) | (with_reducible refine Kd.C_drewN ?_ _) | (with_reducible refine Kd.C_drew ?_) | exact HR122_0.out)) x43_3 p123 q123
                                          (try rw [← Nbq26.out] at hx123_0)
                                          cases e123
                                          replace p123 := eq_true p123
                                          replace q123 := eq_true q123
                                          go_wp2_with (first | ((with_reducible refine gate_builtin (b := .append) (xs := #[.tmp 57, .tmp 66]) rfl ?_); at_builtin; refine Kd.R_append Kd.bool (w0 := w) w.heap.size rfl (.tmp 57) (.tmp 66) 120 4 (.bool false) 1 rfl Try.underlying120 info4 rfl (by decide) (by omega) u11 x11_4 (!(rdOf false (rd_L6 x7_2 x12_4) x43_3)) [.bool (!(rdOf false (rd_L6 x7_2 x12_4) x43_3))] (fun k_ => some k_ ≠ (.slice (some ad121) t103.length co32 : Value).ownBlock) (fun _ => False) rfl rfl ?aP (fun _ hk => hk.elim) ?aF ?aO ?aB ?aS ?aL ?_; (case aP => exact rfl); (case aB => exact (by repeat (first | (with_reducible first | exact HB.out | apply below_alloc | apply pw_below_drewN | apply below_drew1) | exact HB.out))); (case aF => exact (fun k_ hk => Kd.fresh' (Kd.R_lt (by (with_reducible repeat (first | apply Kd.R_alloc | apply Kd.R_drewN | apply Kd.R_drew)); exact HO_6.out)) k_ hk)); (case aO => exact (by (with_reducible repeat (first | apply Kd.R_alloc | apply Kd.R_drewN | apply Kd.R_drew)); exact HO_11.out)); (case aS => exact (below_size (by repeat (first | (with_reducible first | exact HB.out | apply below_alloc | apply pw_below_drewN | apply below_drew1) | exact HB.out)))); (case aL => have := LMc31.out; omega); intro v125 w34 ho hb hg hat; rw [← Ny124.out] at ho; have n0_ := Aside0.mk (Kd.R_after (ok := (fun _ => True)) (by (with_reducible repeat (first | apply Kd.R_alloc | apply Kd.R_drewN | apply Kd.R_drew)); exact Kd.R_mono HO_6.out (fun _ hk => ⟨trivial, hk⟩)) hg hat); have n1_ := Aside0.mk (Kd.S_after (ok := (fun k_ => some k_ ≠ (.slice (some ad121) t103.length co32 : Value).ownBlock ∧ some k_ ≠ (u9 : Value).ownBlock)) (by (with_reducible repeat (first | apply Kd.S_alloc | apply Kd.S_drewN | apply Kd.S_drew)); exact Kd.S_mono HO_7.out (fun _ hk => ⟨⟨hk.1, hk.2.1⟩, hk.2.2⟩)) hg hat); have n2_ := Aside0.mk (Kd.S_after (ok := (fun k_ => some k_ ≠ (.slice (some ad121) t103.length co32 : Value).ownBlock ∧ some k_ ≠ (.slice (some ad122) x7_2.length co33 : Value).ownBlock)) (by (with_reducible repeat (first | apply Kd.S_alloc | apply Kd.S_drewN | apply Kd.S_drew)); exact Kd.S_mono HO_9.out (fun _ hk => ⟨⟨hk.1, hk.2.1⟩, hk.2.2⟩)) hg hat); have n3_ := Aside0.mk (Kd.R_after (ok := (fun k_ => some k_ ≠ (.slice (some ad121) t103.length co32 : Value).ownBlock ∧ some k_ ≠ (.slice (some ad122) x7_2.length co33 : Value).ownBlock ∧ some k_ ≠ (u9 : Value).ownBlock)) (by (with_reducible repeat (first | apply Kd.R_alloc | apply Kd.R_drewN | apply Kd.R_drew)); exact Kd.R_mono HL122_0.out (fun _ hk => ⟨⟨hk.1.1, ⟨hk.2, hk.1.2.1⟩⟩, hk.1.2.2⟩)) hg hat); have n4_ := Aside0.mk (hb); have n5_ := Aside0.mk (ho); clear HO_6; clear HO_7; clear HO_9; clear HL122_0; clear HB; clear HO_11; have HO_6 := n0_; have HO_7 := n1_; have HO_9 := n2_; have HL122_0 := n3_; have HB := n4_; have HO126 := n5_; clear n0_ n1_ n2_ n3_ n4_ n5_; clear ho hb hg hat))
                                          go_roundg k4
                                          case measure => have := HJ3.out; have := HK2.out; have := HK3.out; have := HK4.out; omega
                                          case rel => exact ⟨(y124), (wrap64 (x12_4 + 1)), (by first | rfl | (simp; done) | (simp [*]; done)), H', ⟨by have := HJ3.out; have := HK2.out; have := HK3.out; have := HK4.out; omega⟩, ⟨by (with_reducible repeat (first | apply Kd.R_alloc | apply Kd.R_drewN | apply Kd.R_drew)); exact Kd.R_mono HO_6.out (fun _ hk => hk.2)⟩, ⟨by (with_reducible repeat (first | apply Kd.S_alloc | apply Kd.S_drewN | apply Kd.S_drew)); exact Kd.S_mono HO_7.out (fun _ hk => ⟨hk.1.1, ⟨hk.1.2, hk.2⟩⟩)⟩, ⟨by (with_reducible repeat (first | apply Kd.S_alloc | apply Kd.S_drewN | apply Kd.S_drew)); exact Kd.S_mono HO_9.out (fun _ hk => ⟨hk.1.1, ⟨hk.1.2, hk.2⟩⟩)⟩, ⟨by (with_reducible repeat (first | apply Kd.R_alloc | apply Kd.R_drewN | apply Kd.R_drew)); exact HO126.out⟩, ⟨by repeat (first | (with_reducible first | exact HB.out | apply below_alloc | apply pw_below_drewN | apply below_drew1) | exact HB.out)⟩⟩
                                        · rw [if_neg c31] at H
                                          exact absurd H (by simp)
                                      · rw [if_neg c30] at H
                                        exact absurd H (by simp)
                                    · rw [if_neg c29] at H
                                      exact absurd H (by simp)
                                  · rw [if_neg c28] at H
                                    exact absurd H (by simp)
                                · replace c27 := Bool.eq_false_iff.mpr c27
                                  subst c27
                                  have H1 : (if x9_3.length < 5864062014805 then (doorwardref12_Cells.l1 k4 t103 x7_2 (x9_3 ++ [x11_4]) (l0.length : Int) (wrap64 (x43_3 + 1))) else (none)) = some (r1, r2) := by rw [if_neg (show ¬ (false = true) by decide)] at H; exact H
                                  clear H
                                  have H := H1
                                  clear H1
                                  by_cases c35 : x9_3.length < 5864062014805
                                  · rw [if_pos c35] at H
                                    have LMc35 := Aside0.mk c35
                                    clear c35
                                    obtain ⟨y127, hy127⟩ : ∃ y_ : List (List Bool), y_ = (x9_3 ++ [x11_4]) := ⟨_, rfl⟩
                                    replace H : (doorwardref12_Cells.l1 k4 t103 x7_2 y127 (l0.length : Int) (wrap64 (x43_3 + 1))) = some (r1, r2) := by first | (rw [hy127]; with_reducible exact H) | (have H2_ := (Option.bind_some _ _).symm.trans H; rw [hy127]; with_reducible exact H2_) | (have H2_ := (Option.bind_some _ _).symm.trans H; with_reducible exact H2_) | with_reducible exact H | (rw [hy127]; exact H) | exact H
                                    have Ny127 := Aside0.mk hy127
                                    clear hy127
                                    have H' := Aside0.mk H
                                    clear H
                                    obtain ⟨Ao36, co36, eo36⟩ := Kd.R_slice HO_6.out
                                    subst eo36
                                    have p121 : 0 ≤ (x43_3 : Int) := of_decide_eq_true (by first | (with_reducible assumption) | assumption)
                                    have q121 : x43_3 < (t103.length : Int) := of_decide_eq_true (by first | (with_reducible assumption) | assumption)
                                    obtain ⟨ad121, e121, hx121_0⟩ := Kd.at_bool (Kd.R_reads' HO_6.out).2.2 x43_3 p121 q121
                                    (try rw [← Nbq26.out] at hx121_0)
                                    cases e121
                                    replace p121 := eq_true p121
                                    replace q121 := eq_true q121
                                    obtain ⟨Ao38, co38, eo38⟩ := Kd.R_slice HO_11.out
                                    subst eo38
                                    go_wp2_with (first | ((with_reducible refine gate_builtin (b := .append) (xs := #[.tmp 68, .tmp 70]) rfl ?_); at_builtin; refine Kd.S_append (Kd.slice 4 Kd.bool) (w0 := w) w.heap.size rfl (.tmp 68) (.tmp 70) 57 120 (.slice none 0 0) 24 rfl Try.underlying57 info120 rfl (by decide) (by omega) u9 x9_3 x11_4 [.slice Ao38 x11_4.length co38] (fun k_ => some k_ ≠ (.slice (some ad121) t103.length co36 : Value).ownBlock ∧ some k_ ≠ (u7 : Value).ownBlock) (fun k_ => some k_ = (.slice Ao38 x11_4.length co38 : Value).ownBlock) rfl rfl ?aP (fun k_ hk_ => ((Kd.R_mono (ok' := fun k_ => ((fun k_ => some k_ ≠ (.slice (some ad121) t103.length co36 : Value).ownBlock ∧ some k_ ≠ (u7 : Value).ownBlock)) k_ ∧ some k_ ≠ (u9 : Value).ownBlock) (Kd.R_apart' (Kd.R_apart' (HO_11.out) (Kd.S_typed HO_7.out) (by decide)) (Kd.S_typed HO_9.out) (by decide)) (fun k_ hk => ⟨⟨hk.1.1, hk.1.2⟩, hk.2⟩))).1 k_ hk_.symm) ?aF ?aO ?aB ?aS ?aL ?_; (case aP => exact Kd.M_row (Kd.R_mono (Kd.R_tight rfl (Kd.R_mono (ok' := fun k_ => ((fun k_ => some k_ ≠ (.slice (some ad121) t103.length co36 : Value).ownBlock ∧ some k_ ≠ (u7 : Value).ownBlock)) k_ ∧ some k_ ≠ (u9 : Value).ownBlock) (Kd.R_apart' (Kd.R_apart' (HO_11.out) (Kd.S_typed HO_7.out) (by decide)) (Kd.S_typed HO_9.out) (by decide)) (fun k_ hk => ⟨⟨hk.1.1, hk.1.2⟩, hk.2⟩))) (fun _ h_ => h_))); (case aB => exact (by repeat (first | (with_reducible first | exact HB.out | apply below_alloc | apply pw_below_drewN | apply below_drew1) | exact HB.out))); (case aF => exact (fun k_ hk => ⟨Kd.fresh' (Kd.R_lt (by (with_reducible repeat (first | apply Kd.R_alloc | apply Kd.R_drewN | apply Kd.R_drew)); exact HO_6.out)) k_ hk, Kd.fresh' (Kd.S_lt (by (with_reducible repeat (first | apply Kd.S_alloc | apply Kd.S_drewN | apply Kd.S_drew)); exact HO_7.out)) k_ hk⟩)); (case aO => exact (by (with_reducible repeat (first | apply Kd.S_alloc | apply Kd.S_drewN | apply Kd.S_drew)); exact Kd.S_mono HO_9.out (fun k_ hk => ⟨⟨hk.1, hk.2.1⟩, fun e_ => hk.2.2 e_⟩))); (case aS => exact (below_size (by repeat (first | (with_reducible first | exact HB.out | apply below_alloc | apply pw_below_drewN | apply below_drew1) | exact HB.out)))); (case aL => have := LMc35.out; omega); intro v128 w37 ho hb hg hat; rw [← Ny127.out] at ho; have n0_ := Aside0.mk (Kd.R_over' (by (with_reducible repeat (first | apply Kd.R_alloc | apply Kd.R_drewN | apply Kd.R_drew)); exact HO_6.out) (Kd.S_typed (by (with_reducible repeat (first | apply Kd.S_alloc | apply Kd.S_drewN | apply Kd.S_drew)); exact HO_9.out)) (by decide) hg); have n1_ := Aside0.mk (Kd.S_after (ok := (fun k_ => some k_ ≠ (.slice (some ad121) t103.length co36 : Value).ownBlock ∧ some k_ ≠ (.slice Ao38 x11_4.length co38 : Value).ownBlock)) (by (with_reducible repeat (first | apply Kd.S_alloc | apply Kd.S_drewN | apply Kd.S_drew)); exact Kd.S_mono HO_7.out (fun _ hk => ⟨⟨hk.1, hk.2.2⟩, hk.2.1⟩)) hg hat); have n2_ := Aside0.mk (hb); have n3_ := Aside0.mk (ho); clear HO_6; clear HO_7; clear HB; clear HO_9; clear HO_11; have HO_6 := n0_; have HO_7 := n1_; have HB := n2_; have HO129 := n3_; clear n0_ n1_ n2_ n3_; clear ho hb hg hat))
                                    go_roundg k4
                                    case measure => have := HJ3.out; have := HK2.out; have := HK3.out; have := HK4.out; omega
                                    case rel => exact ⟨(y127), (wrap64 (x43_3 + 1)), (by first | rfl | (simp; done) | (simp [*]; done)), H', ⟨by have := HJ3.out; have := HK2.out; have := HK3.out; have := HK4.out; omega⟩, ⟨by (with_reducible repeat (first | apply Kd.R_alloc | apply Kd.R_drewN | apply Kd.R_drew)); exact Kd.R_mono HO_6.out (fun _ hk => trivial)⟩, ⟨by (with_reducible repeat (first | apply Kd.S_alloc | apply Kd.S_drewN | apply Kd.S_drew)); exact Kd.S_mono HO_7.out (fun _ hk => ⟨hk.1.1, hk.2⟩)⟩, ⟨by (with_reducible repeat (first | apply Kd.S_alloc | apply Kd.S_drewN | apply Kd.S_drew)); exact HO129.out⟩, ⟨by repeat (first | (with_reducible first | exact HB.out | apply below_alloc | apply pw_below_drewN | apply below_drew1) | exact HB.out)⟩⟩
                                  · rw [if_neg c35] at H
                                    exact absurd H (by simp)
                              · rw [if_neg c25] at H
                                exact absurd H (by simp)
                            · rw [if_neg c24] at H
                              exact absurd H (by simp)
                          · rw [if_neg c23] at H
                            have c23b0 : decide (x12_4 < 16) = false := decide_eq_false c23
                            clear c23
                            by_cases c39 : x9_3.length < 5864062014805
                            · rw [if_pos c39] at H
                              have LMc39 := Aside0.mk c39
                              clear c39
                              obtain ⟨y130, hy130⟩ : ∃ y_ : List (List Bool), y_ = (x9_3 ++ [x11_4]) := ⟨_, rfl⟩
                              replace H : (doorwardref12_Cells.l1 k4 t103 x7_2 y130 (l0.length : Int) (wrap64 (x43_3 + 1))) = some (r1, r2) := by first | (rw [hy130]; with_reducible exact H) | (have H2_ := (Option.bind_some _ _).symm.trans H; rw [hy130]; with_reducible exact H2_) | (have H2_ := (Option.bind_some _ _).symm.trans H; with_reducible exact H2_) | with_reducible exact H | (rw [hy130]; exact H) | exact H
                              have Ny130 := Aside0.mk hy130
                              clear hy130
                              have H' := Aside0.mk H
                              clear H
                              obtain ⟨Ao41, co41, eo41⟩ := Kd.R_slice HO_11.out
                              subst eo41
                              go_wp2_with (first | ((with_reducible refine gate_builtin (b := .append) (xs := #[.tmp 68, .tmp 70]) rfl ?_); at_builtin; refine Kd.S_append (Kd.slice 4 Kd.bool) (w0 := w) w.heap.size rfl (.tmp 68) (.tmp 70) 57 120 (.slice none 0 0) 24 rfl Try.underlying57 info120 rfl (by decide) (by omega) u9 x9_3 x11_4 [.slice Ao41 x11_4.length co41] (fun k_ => some k_ ≠ (v104 : Value).ownBlock ∧ some k_ ≠ (u7 : Value).ownBlock) (fun k_ => some k_ = (.slice Ao41 x11_4.length co41 : Value).ownBlock) rfl rfl ?aP (fun k_ hk_ => ((Kd.R_mono (ok' := fun k_ => ((fun k_ => some k_ ≠ (v104 : Value).ownBlock ∧ some k_ ≠ (u7 : Value).ownBlock)) k_ ∧ some k_ ≠ (u9 : Value).ownBlock) (Kd.R_apart' (Kd.R_apart' (HO_11.out) (Kd.S_typed HO_7.out) (by decide)) (Kd.S_typed HO_9.out) (by decide)) (fun k_ hk => ⟨⟨hk.1.1, hk.1.2⟩, hk.2⟩))).1 k_ hk_.symm) ?aF ?aO ?aB ?aS ?aL ?_; (case aP => exact Kd.M_row (Kd.R_mono (Kd.R_tight rfl (Kd.R_mono (ok' := fun k_ => ((fun k_ => some k_ ≠ (v104 : Value).ownBlock ∧ some k_ ≠ (u7 : Value).ownBlock)) k_ ∧ some k_ ≠ (u9 : Value).ownBlock) (Kd.R_apart' (Kd.R_apart' (HO_11.out) (Kd.S_typed HO_7.out) (by decide)) (Kd.S_typed HO_9.out) (by decide)) (fun k_ hk => ⟨⟨hk.1.1, hk.1.2⟩, hk.2⟩))) (fun _ h_ => h_))); (case aB => exact (by repeat (first | (with_reducible first | exact HB.out | apply below_alloc | apply pw_below_drewN | apply below_drew1) | exact HB.out))); (case aF => exact (fun k_ hk => ⟨Kd.fresh' (Kd.R_lt (by (with_reducible repeat (first | apply Kd.R_alloc | apply Kd.R_drewN | apply Kd.R_drew)); exact HO_6.out)) k_ hk, Kd.fresh' (Kd.S_lt (by (with_reducible repeat (first | apply Kd.S_alloc | apply Kd.S_drewN | apply Kd.S_drew)); exact HO_7.out)) k_ hk⟩)); (case aO => exact (by (with_reducible repeat (first | apply Kd.S_alloc | apply Kd.S_drewN | apply Kd.S_drew)); exact Kd.S_mono HO_9.out (fun k_ hk => ⟨⟨hk.1, hk.2.1⟩, fun e_ => hk.2.2 e_⟩))); (case aS => exact (below_size (by repeat (first | (with_reducible first | exact HB.out | apply below_alloc | apply pw_below_drewN | apply below_drew1) | exact HB.out)))); (case aL => have := LMc39.out; omega); intro v131 w40 ho hb hg hat; rw [← Ny130.out] at ho; have n0_ := Aside0.mk (Kd.R_over' (by (with_reducible repeat (first | apply Kd.R_alloc | apply Kd.R_drewN | apply Kd.R_drew)); exact HO_6.out) (Kd.S_typed (by (with_reducible repeat (first | apply Kd.S_alloc | apply Kd.S_drewN | apply Kd.S_drew)); exact HO_9.out)) (by decide) hg); have n1_ := Aside0.mk (Kd.S_after (ok := (fun k_ => some k_ ≠ (v104 : Value).ownBlock ∧ some k_ ≠ (.slice Ao41 x11_4.length co41 : Value).ownBlock)) (by (with_reducible repeat (first | apply Kd.S_alloc | apply Kd.S_drewN | apply Kd.S_drew)); exact Kd.S_mono HO_7.out (fun _ hk => ⟨⟨hk.1, hk.2.2⟩, hk.2.1⟩)) hg hat); have n2_ := Aside0.mk (hb); have n3_ := Aside0.mk (ho); clear HO_6; clear HO_7; clear HB; clear HO_9; clear HO_11; have HO_6 := n0_; have HO_7 := n1_; have HB := n2_; have HO132 := n3_; clear n0_ n1_ n2_ n3_; clear ho hb hg hat))
                              go_roundg k4
                              case measure => have := HJ3.out; have := HK2.out; have := HK3.out; have := HK4.out; omega
                              case rel => exact ⟨(y130), (wrap64 (x43_3 + 1)), (by first | rfl | (simp; done) | (simp [*]; done)), H', ⟨by have := HJ3.out; have := HK2.out; have := HK3.out; have := HK4.out; omega⟩, ⟨by (with_reducible repeat (first | apply Kd.R_alloc | apply Kd.R_drewN | apply Kd.R_drew)); exact Kd.R_mono HO_6.out (fun _ hk => trivial)⟩, ⟨by (with_reducible repeat (first | apply Kd.S_alloc | apply Kd.S_drewN | apply Kd.S_drew)); exact Kd.S_mono HO_7.out (fun _ hk => ⟨hk.1.1, hk.2⟩)⟩, ⟨by (with_reducible repeat (first | apply Kd.S_alloc | apply Kd.S_drewN | apply Kd.S_drew)); exact HO132.out⟩, ⟨by repeat (first | (with_reducible first | exact HB.out | apply below_alloc | apply pw_below_drewN | apply below_drew1) | exact HB.out)⟩⟩
                            · rw [if_neg c39] at H
                              exact absurd H (by simp)
                    · rw [if_neg c20] at H
                      have c20b0 : decide (x43_3 < (l0.length : Int)) = false := decide_eq_false c20
                      clear c20
                      simp only [Option.some.injEq, Prod.mk.injEq] at H
                      obtain ⟨rfl, rfl⟩ := H
                      go_wp2
                      go_ret2
                      exact ⟨_, by first | rfl | (simp [errW_none, errW_some] <;> rfl) | (simp [*, errW_none, errW_some] <;> rfl), by (with_reducible repeat (first | apply Kd.S_alloc | apply Kd.S_drewN | apply Kd.S_drew)); exact Kd.S_mono HO_9.out (fun _ hk => trivial), by repeat (first | (with_reducible first | exact HB.out | apply below_alloc | apply pw_below_drewN | apply below_drew1) | exact HB.out)⟩
end Go.Proofs.Ytefkhcijgiagdaa.K1
end
section
namespace Go.Proofs.Ytefkhcijgiagdaa.K1
open Go.RowKit Go.Proofs.YtefkhcijgiagdaaW.PrintWords Go.Proofs.YtefkhcijgiagdaaW.PrintLast Go.Proofs.YtefkhcijgiagdaaW.PrintMore
attribute [local go_sem] max2_int min2_int max_two min_two max_three min_three max_four min_four IntKind.wrap_u32 IntKind.wrap_u8   -- for this text's walks alone
set_option linter.unusedVariables false
open Go.Proofs.Ytefkhcijgiagdaa.Le Go.Proofs.Ytefkhcijgiagdaa.HKnown Go.Proofs.Ytefkhcijgiagdaa.HPut Go.Proofs.Ytefkhcijgiagdaa.I1 Go.Proofs.Ytefkhcijgiagdaa.E1 Go.Proofs.Ytefkhcijgiagdaa.HAsm Go.Proofs.Ytefkhcijgiagdaa.E2 Go.Proofs.Ytefkhcijgiagdaa.HAll Go.Proofs.Ytefkhcijgiagdaa.V0 Go.Proofs.Ytefkhcijgiagdaa.HVm Go.Proofs.Ytefkhcijgiagdaa.K0 Go.Proofs.Ytefkhcijgiagdaa.HCk Go.Proofs.Ytefkhcijgiagdaa.K3 Go.Proofs.Ytefkhcijgiagdaa.HRch
set_option linter.unusedSimpArgs false
mutual
def doorwardref12_Check.l0 : Nat → List (List Bool) → List (S28) → Int → Int → Option (Int × Int)
  | 0, _, _, _, _ => none
  | k + 1, x6, x28, x29, x30 => if x30 < x29 then (if 0 ≤ x30 then (if x30 < (x28.length : Int) then (if ((rd_T28 x28 x30).f0) = 96 then (doorwardref12_Check.j1 k x6 x30 x28 x29 x30 true ((rd_T28 x28 x30).f0) ((rd_T28 x28 x30).f1) ((rd_T28 x28 x30).f2) ((rd_T28 x28 x30).f3)) else (doorwardref12_Check.j1 k x6 x30 x28 x29 x30 (((rd_T28 x28 x30).f0) == 97) ((rd_T28 x28 x30).f0) ((rd_T28 x28 x30).f1) ((rd_T28 x28 x30).f2) ((rd_T28 x28 x30).f3))) else (none)) else (none)) else (some (0, 0))
def doorwardref12_Check.j1 : Nat → List (List Bool) → Int → List (S28) → Int → Int → Bool → Int → Int → Int → Int → Option (Int × Int)
  | 0, _, _, _, _, _, _, _, _, _, _ => none
  | k + 1, x6, x8, x28, x29, x30, x42, x141000, x141001, x141002, x141003 => if x42 = true then (if 0 ≤ x8 then (if x8 < (x6.length : Int) then (if ((rd_L6 x6 x8).length : Int) > 0 then (if 0 ≤ x141003 then (if x141003 < ((rd_L6 x6 x8).length : Int) then (if (rdOf false (rd_L6 x6 x8) x141003 = true) then (doorwardref12_Check.l0 k x6 x28 x29 (wrap64 (x30 + 1))) else (some (x8, 51))) else (none)) else (none)) else (doorwardref12_Check.l0 k x6 x28 x29 (wrap64 (x30 + 1)))) else (none)) else (none)) else (doorwardref12_Check.l0 k x6 x28 x29 (wrap64 (x30 + 1)))
end
def doorwardref12_Check.f (k : Nat) (l0 : List (S28)) : Option (Int × Int) := if (l0.length : Int) = 0 then (some (0, 51)) else (if (l0.length : Int) > 4096 then (some (0, 2)) else ((doorwardref12_first.f k l0).bind fun bt133 => (if bt133.2 = true then (some (bt133.1, 51)) else ((doorwardref12_Cells.f k l0).bind fun bt135 => (doorwardref12_Check.l0 k bt135.1 l0 (l0.length : Int) 0)))))
set_option maxHeartbeats 8000000 in
set_option maxRecDepth 100000 in
theorem doorwardref12_Check.calls (k : Nat) (A0 : Option Addr) (c0 : Nat) (l0 : List (S28)) (r1 : Int) (r2 : Int) (w : World) (hr0 : Kd.C k28 w A0 l0.length l0) (hc0 : l0.length ≤ c0) (h : doorwardref12_Check.f k l0 = some (r1, r2)) :
    Calls Try.prog 55 #[.slice A0 l0.length c0] w fun e w' => e = .returned (.tuple #[.int .i64 r1, .int .i64 r2]) ∧ Below w.heap.size w w' := by
  have hu28 := Try.underlying28
  have HR0 := Aside0.mk hr0
  have HC0 := Aside0.mk hc0
  clear hr0 hc0
  have HB := Aside0.mk (Below.refl w.heap.size w)
  have H : (if (l0.length : Int) = 0 then (some (0, 51)) else (if (l0.length : Int) > 4096 then (some (0, 2)) else ((doorwardref12_first.f k l0).bind fun bt133 => (if bt133.2 = true then (some (bt133.1, 51)) else ((doorwardref12_Cells.f k l0).bind fun bt135 => (doorwardref12_Check.l0 k bt135.1 l0 (l0.length : Int) 0)))))) = some (r1, r2) := h
  clear h
  by_cases c2 : (l0.length : Int) = 0
  · rw [if_pos c2] at H
    have c2b0 : ((l0.length : Int) == 0) = true := beq_iff_eq.mpr c2
    have c2b1 : ((l0.length : Int) != 0) = false := bne_eq_false_iff_eq.mpr c2
    clear c2
    simp only [Option.some.injEq, Prod.mk.injEq] at H
    obtain ⟨rfl, rfl⟩ := H
    go_enter Try.func55, Try.ntmps55
    go_wp2
    repeat (go_quiet (fail); try go_wp2)
    go_ret2
    exact ⟨by first | rfl | (simp [errW_none, errW_some] <;> rfl) | (simp [*, errW_none, errW_some] <;> rfl), by repeat (first | (with_reducible first | exact HB.out | apply below_alloc | apply pw_below_drewN | apply below_drew1) | exact HB.out)⟩
  · rw [if_neg c2] at H
    have c2b0 : ((l0.length : Int) == 0) = false := beq_eq_false_iff_ne.mpr c2
    have c2b1 : ((l0.length : Int) != 0) = true := bne_iff_ne.mpr c2
    have c2b2 : ¬ (l0 = []) := fun h_ => c2 (by rw [h_]; rfl)
    by_cases c3 : (l0.length : Int) > 4096
    · rw [if_pos c3] at H
      have c3b0 : decide (4096 < (l0.length : Int)) = true := decide_eq_true c3
      have c3b1 : decide (4096 < l0.length) = true := decide_eq_true (by omega)
      clear c3
      simp only [Option.some.injEq, Prod.mk.injEq] at H
      obtain ⟨rfl, rfl⟩ := H
      go_enter Try.func55, Try.ntmps55
      go_wp2
      repeat (go_quiet (fail); try go_wp2)
      go_ret2
      exact ⟨by first | rfl | (simp [errW_none, errW_some] <;> rfl) | (simp [*, errW_none, errW_some] <;> rfl), by repeat (first | (with_reducible first | exact HB.out | apply below_alloc | apply pw_below_drewN | apply below_drew1) | exact HB.out)⟩
    · rw [if_neg c3] at H
      have c3b0 : decide (4096 < (l0.length : Int)) = false := decide_eq_false c3
      have c3b1 : decide (4096 < l0.length) = false := decide_eq_false (by omega)
      clear c3
      replace H := Option.bind_eq_some_iff.mp H
      obtain ⟨⟨t133, t134⟩, A40, H⟩ := H
      replace H : (if t134 = true then (some (t133, 51)) else ((doorwardref12_Cells.f k l0).bind fun bt135 => (doorwardref12_Check.l0 k bt135.1 l0 (l0.length : Int) 0))) = some (r1, r2) := H
      have A4 := Aside0.mk A40
      clear A40
      by_cases c5 : t134 = true
      · subst c5
        have H1 : (some (t133, 51)) = some (r1, r2) := by rw [if_pos rfl] at H; exact H
        clear H
        have H := H1
        clear H1
        simp only [Option.some.injEq, Prod.mk.injEq] at H
        obtain ⟨rfl, rfl⟩ := H
        go_enter Try.func55, Try.ntmps55
        go_wp2_with (first | (go_at_call 100; (with_reducible refine (doorwardref12_first.calls k _ _ l0 t133 true _ ?side1 ?side2 A4.out).mono ?_); (case side1 => repeat (first | exact HR0.out | (with_reducible refine Kd.C_alloc ?_ _) | (with_reducible refine Kd.C_drewN ?_ _) | (with_reducible refine Kd.C_drew ?_))); (case side2 => exact HC0.out); rintro e w6 ⟨rfl, hb⟩; have n0_ := Aside0.mk (below_step (by repeat (first | (with_reducible first | exact HB.out | apply below_alloc | apply pw_below_drewN | apply below_drew1) | exact HB.out)) hb); clear HB; have HB := n0_; clear n0_; (try clear hb); (try clear hb2); (try clear hk); (try clear hi)))
        repeat (go_quiet (first | (go_at_call 100; (with_reducible refine (doorwardref12_first.calls k _ _ l0 t133 true _ ?side1 ?side2 A4.out).mono ?_); (case side1 => repeat (first | exact HR0.out | (with_reducible refine Kd.C_alloc ?_ _) | (with_reducible refine Kd.C_drewN ?_ _) | (with_reducible refine Kd.C_drew ?_))); (case side2 => exact HC0.out); rintro e w6 ⟨rfl, hb⟩; have n0_ := Aside0.mk (below_step (by repeat (first | (with_reducible first | exact HB.out | apply below_alloc | apply pw_below_drewN | apply below_drew1) | exact HB.out)) hb); clear HB; have HB := n0_; clear n0_; (try clear hb); (try clear hb2); (try clear hk); (try clear hi))); try go_wp2_with (first | (go_at_call 100; (with_reducible refine (doorwardref12_first.calls k _ _ l0 t133 true _ ?side1 ?side2 A4.out).mono ?_); (case side1 => repeat (first | exact HR0.out | (with_reducible refine Kd.C_alloc ?_ _) | (with_reducible refine Kd.C_drewN ?_ _) | (with_reducible refine Kd.C_drew ?_))); (case side2 => exact HC0.out); rintro e w6 ⟨rfl, hb⟩; have n0_ := Aside0.mk (below_step (by repeat (first | (with_reducible first | exact HB.out | apply below_alloc | apply pw_below_drewN | apply below_drew1) | exact HB.out)) hb); clear HB; have HB := n0_; clear n0_; (try clear hb); (try clear hb2); (try clear hk); (try clear hi))))
        go_ret2
        exact ⟨by first | rfl | (simp [errW_none, errW_some] <;> rfl) | (simp [*, errW_none, errW_some] <;> rfl), by repeat (first | (with_reducible first | exact HB.out | apply below_alloc | apply pw_below_drewN | apply below_drew1) | exact HB.out)⟩
      · replace c5 := Bool.eq_false_iff.mpr c5
        subst c5
        have H1 : ((doorwardref12_Cells.f k l0).bind fun bt135 => (doorwardref12_Check.l0 k bt135.1 l0 (l0.length : Int) 0)) = some (r1, r2) := by rw [if_neg (show ¬ (false = true) by decide)] at H; exact H
        clear H
        have H := H1
        clear H1
        replace H := Option.bind_eq_some_iff.mp H
        obtain ⟨⟨t135, t136⟩, A70, H⟩ := H
        replace H : (doorwardref12_Check.l0 k t135 l0 (l0.length : Int) 0) = some (r1, r2) := H
        have A7 := Aside0.mk A70
        clear A70
        have H' := Aside0.mk H
        clear H
        go_enter Try.func55, Try.ntmps55
        go_wp2_with (first | (go_at_call 100; (with_reducible refine (doorwardref12_first.calls k _ _ l0 t133 false _ ?side1 ?side2 A4.out).mono ?_); (case side1 => repeat (first | exact HR0.out | (with_reducible refine Kd.C_alloc ?_ _) | (with_reducible refine Kd.C_drewN ?_ _) | (with_reducible refine Kd.C_drew ?_))); (case side2 => exact HC0.out); rintro e w8 ⟨rfl, hb⟩; have n0_ := Aside0.mk (below_step (by repeat (first | (with_reducible first | exact HB.out | apply below_alloc | apply pw_below_drewN | apply below_drew1) | exact HB.out)) hb); clear HB; have HB := n0_; clear n0_; (try clear hb); (try clear hb2); (try clear hk); (try clear hi)) | (go_at_call 57; (with_reducible refine (doorwardref12_Cells.calls k _ _ l0 t135 t136 _ ?side1 ?side2 A7.out).mono ?_); (case side1 => repeat (first | exact (Kd.C_below HR0.out HB.out) | (with_reducible refine Kd.C_alloc ?_ _) | (with_reducible refine Kd.C_drewN ?_ _) | (with_reducible refine Kd.C_drew ?_))); (case side2 => exact HC0.out); rintro e w9 ⟨v137, rfl, ho0, hb⟩; have n0_ := Aside0.mk (Kd.S_lower ho0 (below_size (by repeat (first | (with_reducible first | exact HB.out | apply below_alloc | apply pw_below_drewN | apply below_drew1) | exact HB.out)))); have n1_ := Aside0.mk (below_step (by repeat (first | (with_reducible first | exact HB.out | apply below_alloc | apply pw_below_drewN | apply below_drew1) | exact HB.out)) hb); clear HB; have HO138 := n0_; have HB := n1_; clear n0_ n1_; (try clear hb); (try clear hb2); (try clear hk); (try clear hi); (try clear ho0)))
        repeat (go_quiet (first | (go_at_call 100; (with_reducible refine (doorwardref12_first.calls k _ _ l0 t133 false _ ?side1 ?side2 A4.out).mono ?_); (case side1 => repeat (first | exact HR0.out | (with_reducible refine Kd.C_alloc ?_ _) | (with_reducible refine Kd.C_drewN ?_ _) | (with_reducible refine Kd.C_drew ?_))); (case side2 => exact HC0.out); rintro e w8 ⟨rfl, hb⟩; have n0_ := Aside0.mk (below_step (by repeat (first | (with_reducible first | exact HB.out | apply below_alloc | apply pw_below_drewN | apply below_drew1) | exact HB.out)) hb); clear HB; have HB := n0_; clear n0_; (try clear hb); (try clear hb2); (try clear hk); (try clear hi)) | (go_at_call 57; (with_reducible refine (doorwardref12_Cells.calls k _ _ l0 t135 t136 _ ?side1 ?side2 A7.out).mono ?_); (case side1 => repeat (first | exact (Kd.C_below HR0.out HB.out) | (with_reducible refine Kd.C_alloc ?_ _) | (with_reducible refine Kd.C_drewN ?_ _) | (with_reducible refine Kd.C_drew ?_))); (case side2 => exact HC0.out); rintro e w9 ⟨v137, rfl, ho0, hb⟩; have n0_ := Aside0.mk (Kd.S_lower ho0 (below_size (by repeat (first | (with_reducible first | exact HB.out | apply below_alloc | apply pw_below_drewN | apply below_drew1) | exact HB.out)))); have n1_ := Aside0.mk (below_step (by repeat (first | (with_reducible first | exact HB.out | apply below_alloc | apply pw_below_drewN | apply below_drew1) | exact HB.out)) hb); clear HB; have HO138 := n0_; have HB := n1_; clear n0_ n1_; (try clear hb); (try clear hb2); (try clear hk); (try clear hi); (try clear ho0))); try go_wp2_with (first | (go_at_call 100; (with_reducible refine (doorwardref12_first.calls k _ _ l0 t133 false _ ?side1 ?side2 A4.out).mono ?_); (case side1 => repeat (first | exact HR0.out | (with_reducible refine Kd.C_alloc ?_ _) | (with_reducible refine Kd.C_drewN ?_ _) | (with_reducible refine Kd.C_drew ?_))); (case side2 => exact HC0.out); rintro e w8 ⟨rfl, hb⟩; have n0_ := Aside0.mk (below_step (by repeat (first | (with_reducible first | exact HB.out | apply below_alloc | apply pw_below_drewN | apply below_drew1) | exact HB.out)) hb); clear HB; have HB := n0_; clear n0_; (try clear hb); (try clear hb2); (try clear hk); (try clear hi)) | (go_at_call 57; (with_reducible refine (doorwardref12_Cells.calls k _ _ l0 t135 t136 _ ?side1 ?side2 A7.out).mono ?_); (case side1 => repeat (first | exact (Kd.C_below HR0.out HB.out) | (with_reducible refine Kd.C_alloc ?_ _) | (with_reducible refine Kd.C_drewN ?_ _) | (with_reducible refine Kd.C_drew ?_))); (case side2 => exact HC0.out); rintro e w9 ⟨v137, rfl, ho0, hb⟩; have n0_ := Aside0.mk (Kd.S_lower ho0 (below_size (by repeat (first | (with_reducible first | exact HB.out | apply below_alloc | apply pw_below_drewN | apply below_drew1) | exact HB.out)))); have n1_ := Aside0.mk (below_step (by repeat (first | (with_reducible first | exact HB.out | apply below_alloc | apply pw_below_drewN | apply below_drew1) | exact HB.out)) hb); clear HB; have HO138 := n0_; have HB := n1_; clear n0_ n1_; (try clear hb); (try clear hb2); (try clear hk); (try clear hi); (try clear ho0))))
        go_loopg [30] k (fun kq v30 w' => ∃ (x30_1 : Int), v30 = .int .i64 x30_1 ∧ Aside0 (doorwardref12_Check.l0 kq t135 l0 (l0.length : Int) x30_1 = some (r1, r2)) ∧ Aside0 (kq ≤ k) ∧ Aside0 (Kd.S (Kd.slice 4 Kd.bool) 120 w' w.heap.size (fun _ => True) v137 t135) ∧ Aside0 (Below w.heap.size w w'))
        case atStart => exact ⟨(0), (by first | rfl | (simp; done) | (simp [*]; done)), H', ⟨Nat.le_refl _⟩, ⟨by (with_reducible repeat (first | apply Kd.S_alloc | apply Kd.S_drewN | apply Kd.S_drew)); exact HO138.out⟩, ⟨by repeat (first | (with_reducible first | exact HB.out | apply below_alloc | apply pw_below_drewN | apply below_drew1) | exact HB.out)⟩⟩
        case round =>
          clear H'
          try clear c2
          try clear c2b0
          try clear c2b1
          try clear c2b2
          try clear p2
          try clear c3
          try clear c3b0
          try clear c3b1
          try clear c5
          obtain ⟨x30_1, rfl, HA, HK1, HO_6, HB⟩ := hrel
          cases gk with
          | zero => exact absurd HA.out (by simp [doorwardref12_Check.l0])
          | succ k1 =>
            have H := HA.out
            clear HA
            simp only [doorwardref12_Check.l0] at H
            by_cases c10 : x30_1 < (l0.length : Int)
            · rw [if_pos c10] at H
              have c10b0 : decide (x30_1 < (l0.length : Int)) = true := decide_eq_true c10
              clear c10
              by_cases c11 : 0 ≤ x30_1
              · rw [if_pos c11] at H
                have c11b0 : decide (0 ≤ x30_1) = true := decide_eq_true c11
                clear c11
                by_cases c12 : x30_1 < (l0.length : Int)
                · rw [if_pos c12] at H
                  have c12b0 : decide (x30_1 < (l0.length : Int)) = true := decide_eq_true c12
                  clear c12
                  have HC13 := Aside0.mk H
                  clear H
                  have p139 : 0 ≤ (x30_1 : Int) := of_decide_eq_true (by first | (with_reducible assumption) | assumption)
                  have q139 : x30_1 < (l0.length : Int) := of_decide_eq_true (by first | (with_reducible assumption) | assumption)
                  obtain ⟨ad139, e139, hx139_0, hx139_1, hx139_2, hx139_3⟩ := at_T28 HR0.out x30_1 p139 q139
                  cases e139
                  replace hx139_0 := (HB.out.cell (World.block_lt_of_cell? w _ hx139_0)).trans hx139_0
                  replace hx139_1 := (HB.out.cell (World.block_lt_of_cell? w _ hx139_1)).trans hx139_1
                  replace hx139_2 := (HB.out.cell (World.block_lt_of_cell? w _ hx139_2)).trans hx139_2
                  replace hx139_3 := (HB.out.cell (World.block_lt_of_cell? w _ hx139_3)).trans hx139_3
                  replace p139 := eq_true p139
                  replace q139 := eq_true q139
                  go_upto_region 12 with (first | ((with_reducible refine gate_dst (N := 9) rfl ?_); refine box_event ?hg (N := 9) ?hd (cs := #[.int .i64 0, .int .i64 0, .int .i64 0, .int .u32 0]) (t := 28) ?hr ?_; (case hd => rfl); (case hg => rfl); (case hr => first | (go_simp; done) | (go_simp; rfl)); intro gb140 hg w14 hbox hb; have n0_ := Aside0.mk (Kd.S_below (by (with_reducible repeat (first | apply Kd.S_alloc | apply Kd.S_drewN | apply Kd.S_drew)); exact HO_6.out) hb); have n1_ := Aside0.mk (below_step (by repeat (first | (with_reducible first | exact HB.out | apply below_alloc | apply pw_below_drewN | apply below_drew1) | exact HB.out)) hb); have n2_ := Aside0.mk (hbox); have n3_ := Aside0.mk ((by rw [hg]; exact (below_size (by repeat (first | (with_reducible first | exact HB.out | apply below_alloc | apply pw_below_drewN | apply below_drew1) | exact HB.out))) : w.heap.size ≤ gb140)); have n4_ := Aside0.mk ((by rw [hg]; exact (below_size (by repeat (first | (with_reducible first | exact HB.out | apply below_alloc | apply pw_below_drewN | apply below_drew1) | exact HB.out))) : w.heap.size ≤ gb140)); clear HO_6; clear HB; have HO_6 := n0_; have HB := n1_; have BK140 := n2_; have GW140 := n3_; have GE140 := n4_; clear n0_ n1_ n2_ n3_ n4_; clear hb hbox hg; have hcz15_0 : w14.cell? ⟨gb140, 0, none⟩ = some (.int .i64 0) := (blk_cell BK140.out 0).trans rfl; have hcz15_1 : w14.cell? ⟨gb140, 1, none⟩ = some (.int .i64 0) := (blk_cell BK140.out 1).trans rfl; have hcz15_2 : w14.cell? ⟨gb140, 2, none⟩ = some (.int .i64 0) := (blk_cell BK140.out 2).trans rfl; have hcz15_3 : w14.cell? ⟨gb140, 3, none⟩ = some (.int .u32 0) := (blk_cell BK140.out 3).trans rfl; have hfz15_0 := blk_frozen BK140.out 0; have hfz15_1 := blk_frozen BK140.out 1; have hfz15_2 := blk_frozen BK140.out 2; have hfz15_3 := blk_frozen BK140.out 3))
                  repeat (go_quiet (first | ((with_reducible refine gate_dst (N := 9) rfl ?_); refine box_event ?hg (N := 9) ?hd (cs := #[.int .i64 0, .int .i64 0, .int .i64 0, .int .u32 0]) (t := 28) ?hr ?_; (case hd => rfl); (case hg => rfl); (case hr => first | (go_simp; done) | (go_simp; rfl)); intro gb140 hg w14 hbox hb; have n0_ := Aside0.mk (Kd.S_below (by (with_reducible repeat (first | apply Kd.S_alloc | apply Kd.S_drewN | apply Kd.S_drew)); exact HO_6.out) hb); have n1_ := Aside0.mk (below_step (by repeat (first | (with_reducible first | exact HB.out | apply below_alloc | apply pw_below_drewN | apply below_drew1) | exact HB.out)) hb); have n2_ := Aside0.mk (hbox); have n3_ := Aside0.mk ((by rw [hg]; exact (below_size (by repeat (first | (with_reducible first | exact HB.out | apply below_alloc | apply pw_below_drewN | apply below_drew1) | exact HB.out))) : w.heap.size ≤ gb140)); have n4_ := Aside0.mk ((by rw [hg]; exact (below_size (by repeat (first | (with_reducible first | exact HB.out | apply below_alloc | apply pw_below_drewN | apply below_drew1) | exact HB.out))) : w.heap.size ≤ gb140)); clear HO_6; clear HB; have HO_6 := n0_; have HB := n1_; have BK140 := n2_; have GW140 := n3_; have GE140 := n4_; clear n0_ n1_ n2_ n3_ n4_; clear hb hbox hg; have hcz15_0 : w14.cell? ⟨gb140, 0, none⟩ = some (.int .i64 0) := (blk_cell BK140.out 0).trans rfl; have hcz15_1 : w14.cell? ⟨gb140, 1, none⟩ = some (.int .i64 0) := (blk_cell BK140.out 1).trans rfl; have hcz15_2 : w14.cell? ⟨gb140, 2, none⟩ = some (.int .i64 0) := (blk_cell BK140.out 2).trans rfl; have hcz15_3 : w14.cell? ⟨gb140, 3, none⟩ = some (.int .u32 0) := (blk_cell BK140.out 3).trans rfl; have hfz15_0 := blk_frozen BK140.out 0; have hfz15_1 := blk_frozen BK140.out 1; have hfz15_2 := blk_frozen BK140.out 2; have hfz15_3 := blk_frozen BK140.out 3)); go_upto_region 12 with (first | ((with_reducible refine gate_dst (N := 9) rfl ?_); refine box_event ?hg (N := 9) ?hd (cs := #[.int .i64 0, .int .i64 0, .int .i64 0, .int .u32 0]) (t := 28) ?hr ?_; (case hd => rfl); (case hg => rfl); (case hr => first | (go_simp; done) | (go_simp; rfl)); intro gb140 hg w14 hbox hb; have n0_ := Aside0.mk (Kd.S_below (by (with_reducible repeat (first | apply Kd.S_alloc | apply Kd.S_drewN | apply Kd.S_drew)); exact HO_6.out) hb); have n1_ := Aside0.mk (below_step (by repeat (first | (with_reducible first | exact HB.out | apply below_alloc | apply pw_below_drewN | apply below_drew1) | exact HB.out)) hb); have n2_ := Aside0.mk (hbox); have n3_ := Aside0.mk ((by rw [hg]; exact (below_size (by repeat (first | (with_reducible first | exact HB.out | apply below_alloc | apply pw_below_drewN | apply below_drew1) | exact HB.out))) : w.heap.size ≤ gb140)); have n4_ := Aside0.mk ((by rw [hg]; exact (below_size (by repeat (first | (with_reducible first | exact HB.out | apply below_alloc | apply pw_below_drewN | apply below_drew1) | exact HB.out))) : w.heap.size ≤ gb140)); clear HO_6; clear HB; have HO_6 := n0_; have HB := n1_; have BK140 := n2_; have GW140 := n3_; have GE140 := n4_; clear n0_ n1_ n2_ n3_ n4_; clear hb hbox hg; have hcz15_0 : w14.cell? ⟨gb140, 0, none⟩ = some (.int .i64 0) := (blk_cell BK140.out 0).trans rfl; have hcz15_1 : w14.cell? ⟨gb140, 1, none⟩ = some (.int .i64 0) := (blk_cell BK140.out 1).trans rfl; have hcz15_2 : w14.cell? ⟨gb140, 2, none⟩ = some (.int .i64 0) := (blk_cell BK140.out 2).trans rfl; have hcz15_3 : w14.cell? ⟨gb140, 3, none⟩ = some (.int .u32 0) := (blk_cell BK140.out 3).trans rfl; have hfz15_0 := blk_frozen BK140.out 0; have hfz15_1 := blk_frozen BK140.out 1; have hfz15_2 := blk_frozen BK140.out 2; have hfz15_3 := blk_frozen BK140.out 3)))
                  (try simp only [Act.put, List.setIfInBounds_toArray, List.set_cons_zero, List.set_cons_succ])
                  go_cut [42] (fun v42 wc => ∃ (kq : Nat) (x42_12 : Bool), v42 = .bool x42_12 ∧ Aside0 (doorwardref12_Check.j1 kq t135 x30_1 l0 (l0.length : Int) x30_1 x42_12 ((rd_T28 l0 x30_1).f0) ((rd_T28 l0 x30_1).f1) ((rd_T28 l0 x30_1).f2) ((rd_T28 l0 x30_1).f3) = some (r1, r2)) ∧ Aside0 (kq ≤ k1) ∧ Aside0 (Kd.S (Kd.slice 4 Kd.bool) 120 wc w.heap.size (fun _ => True) v137 t135) ∧ Aside0 (wc.heap[gb140]? = some (.cells #[.int .i64 ((rd_T28 l0 x30_1).f0), .int .i64 ((rd_T28 l0 x30_1).f1), .int .i64 ((rd_T28 l0 x30_1).f2), .int .u32 ((rd_T28 l0 x30_1).f3)] 28 (0, 0))) ∧ Aside0 (Below w.heap.size w wc))
                  case first =>
                    have H := HC13.out
                    clear HC13
                    by_cases c16 : ((rd_T28 l0 x30_1).f0) = 96
                    · rw [if_pos c16] at H
                      have c16b0 : (((rd_T28 l0 x30_1).f0) == 96) = true := beq_iff_eq.mpr c16
                      have c16b1 : (((rd_T28 l0 x30_1).f0) != 96) = false := bne_eq_false_iff_eq.mpr c16
                      clear c16
                      (first | rw [c16b0] | (simp only [i64_w, i32_w]; rw [c16b0]) | skip)
                      have H' := Aside0.mk H
                      clear H
                      have hcz17_0 : w14.cell? ⟨gb140, 0, none⟩ = some (.int .i64 0) := (blk_cell BK140.out 0).trans rfl
                      have hcz17_1 : w14.cell? ⟨gb140, 1, none⟩ = some (.int .i64 0) := (blk_cell BK140.out 1).trans rfl
                      have hcz17_2 : w14.cell? ⟨gb140, 2, none⟩ = some (.int .i64 0) := (blk_cell BK140.out 2).trans rfl
                      have hcz17_3 : w14.cell? ⟨gb140, 3, none⟩ = some (.int .u32 0) := (blk_cell BK140.out 3).trans rfl
                      have hfz17_0 := blk_frozen BK140.out 0
                      have hfz17_1 := blk_frozen BK140.out 1
                      have hfz17_2 := blk_frozen BK140.out 2
                      have hfz17_3 := blk_frozen BK140.out 3
                      go_wp2
                      repeat (go_quiet (fail); try go_wp2)
                      go_meet
                      case rel => exact ⟨_, (true), (by first | rfl | (simp; done) | (simp [*]; done)), H', ⟨by have := HK1.out; first | omega | exact Nat.le_refl _⟩, ⟨by (with_reducible repeat (first | apply Kd.S_alloc | apply Kd.S_drewN | apply Kd.S_drew)); exact Kd.S_mono (Kd.S_far (p := ⟨gb140, 3, none⟩) (Kd.S_far (p := ⟨gb140, 2, none⟩) (Kd.S_far (p := ⟨gb140, 1, none⟩) (Kd.S_far (p := ⟨gb140, 0, none⟩) (Kd.S_types HO_6.out BK140.out (by decide)) (fun _ hk => hk.2) (.int .i64 ((rd_T28 l0 x30_1).f0))) (fun _ hk => hk.2) (.int .i64 ((rd_T28 l0 x30_1).f1))) (fun _ hk => hk.2) (.int .i64 ((rd_T28 l0 x30_1).f2))) (fun _ hk => hk.2) (.int .u32 ((rd_T28 l0 x30_1).f3))) (fun _ hk => trivial)⟩, ⟨by (with_reducible repeat (first | refine blk_drewN ?_ _ | refine blk_drew ?_ | refine blk_alloc ?_ _)); refine blk_put (cs := #[.int .i64 ((rd_T28 l0 x30_1).f0), .int .i64 ((rd_T28 l0 x30_1).f1), .int .i64 ((rd_T28 l0 x30_1).f2), .int .u32 0]) ?_ 3 _ rfl; (with_reducible repeat (first | refine blk_drewN ?_ _ | refine blk_drew ?_ | refine blk_alloc ?_ _)); refine blk_put (cs := #[.int .i64 ((rd_T28 l0 x30_1).f0), .int .i64 ((rd_T28 l0 x30_1).f1), .int .i64 0, .int .u32 0]) ?_ 2 _ rfl; (with_reducible repeat (first | refine blk_drewN ?_ _ | refine blk_drew ?_ | refine blk_alloc ?_ _)); refine blk_put (cs := #[.int .i64 ((rd_T28 l0 x30_1).f0), .int .i64 0, .int .i64 0, .int .u32 0]) ?_ 1 _ rfl; (with_reducible repeat (first | refine blk_drewN ?_ _ | refine blk_drew ?_ | refine blk_alloc ?_ _)); refine blk_put (cs := #[.int .i64 0, .int .i64 0, .int .i64 0, .int .u32 0]) ?_ 0 _ rfl; (with_reducible repeat (first | refine blk_drewN ?_ _ | refine blk_drew ?_ | refine blk_alloc ?_ _)); exact BK140.out⟩, ⟨by repeat (first | (with_reducible first | exact HB.out | apply below_alloc | apply pw_below_drewN | apply below_drew1 | refine below_set ?_ GE140.out) | exact HB.out)⟩⟩
                    · rw [if_neg c16] at H
                      have c16b0 : (((rd_T28 l0 x30_1).f0) == 96) = false := beq_eq_false_iff_ne.mpr c16
                      have c16b1 : (((rd_T28 l0 x30_1).f0) != 96) = true := bne_iff_ne.mpr c16
                      (first | rw [c16b0] | (simp only [i64_w, i32_w]; rw [c16b0]) | skip)
                      have H' := Aside0.mk H
                      clear H
                      have hcz18_0 : w14.cell? ⟨gb140, 0, none⟩ = some (.int .i64 0) := (blk_cell BK140.out 0).trans rfl
                      have hcz18_1 : w14.cell? ⟨gb140, 1, none⟩ = some (.int .i64 0) := (blk_cell BK140.out 1).trans rfl
                      have hcz18_2 : w14.cell? ⟨gb140, 2, none⟩ = some (.int .i64 0) := (blk_cell BK140.out 2).trans rfl
                      have hcz18_3 : w14.cell? ⟨gb140, 3, none⟩ = some (.int .u32 0) := (blk_cell BK140.out 3).trans rfl
                      have hfz18_0 := blk_frozen BK140.out 0
                      have hfz18_1 := blk_frozen BK140.out 1
                      have hfz18_2 := blk_frozen BK140.out 2
                      have hfz18_3 := blk_frozen BK140.out 3
                      go_wp2
                      repeat (go_quiet (fail); try go_wp2)
                      go_meet
                      case rel => exact ⟨_, ((((rd_T28 l0 x30_1).f0) == 97)), (by first | rfl | (simp; done) | (simp [*]; done)), H', ⟨by have := HK1.out; first | omega | exact Nat.le_refl _⟩, ⟨by (with_reducible repeat (first | apply Kd.S_alloc | apply Kd.S_drewN | apply Kd.S_drew)); exact Kd.S_mono (Kd.S_far (p := ⟨gb140, 3, none⟩) (Kd.S_far (p := ⟨gb140, 2, none⟩) (Kd.S_far (p := ⟨gb140, 1, none⟩) (Kd.S_far (p := ⟨gb140, 0, none⟩) (Kd.S_types HO_6.out BK140.out (by decide)) (fun _ hk => hk.2) (.int .i64 ((rd_T28 l0 x30_1).f0))) (fun _ hk => hk.2) (.int .i64 ((rd_T28 l0 x30_1).f1))) (fun _ hk => hk.2) (.int .i64 ((rd_T28 l0 x30_1).f2))) (fun _ hk => hk.2) (.int .u32 ((rd_T28 l0 x30_1).f3))) (fun _ hk => trivial)⟩, ⟨by (with_reducible repeat (first | refine blk_drewN ?_ _ | refine blk_drew ?_ | refine blk_alloc ?_ _)); refine blk_put (cs := #[.int .i64 ((rd_T28 l0 x30_1).f0), .int .i64 ((rd_T28 l0 x30_1).f1), .int .i64 ((rd_T28 l0 x30_1).f2), .int .u32 0]) ?_ 3 _ rfl; (with_reducible repeat (first | refine blk_drewN ?_ _ | refine blk_drew ?_ | refine blk_alloc ?_ _)); refine blk_put (cs := #[.int .i64 ((rd_T28 l0 x30_1).f0), .int .i64 ((rd_T28 l0 x30_1).f1), .int .i64 0, .int .u32 0]) ?_ 2 _ rfl; (with_reducible repeat (first | refine blk_drewN ?_ _ | refine blk_drew ?_ | refine blk_alloc ?_ _)); refine blk_put (cs := #[.int .i64 ((rd_T28 l0 x30_1).f0), .int .i64 0, .int .i64 0, .int .u32 0]) ?_ 1 _ rfl; (with_reducible repeat (first | refine blk_drewN ?_ _ | refine blk_drew ?_ | refine blk_alloc ?_ _)); refine blk_put (cs := #[.int .i64 0, .int .i64 0, .int .i64 0, .int .u32 0]) ?_ 0 _ rfl; (with_reducible repeat (first | refine blk_drewN ?_ _ | refine blk_drew ?_ | refine blk_alloc ?_ _)); exact BK140.out⟩, ⟨by repeat (first | (with_reducible first | exact HB.out | apply below_alloc | apply pw_below_drewN | apply below_drew1 | refine below_set ?_ GE140.out) | exact HB.out)⟩⟩
                  case rest =>
                    clear HC13
                    try clear c1
                    try clear p1
                    try clear q1
                    try clear hx1
                    try clear c2
                    try clear c2b0
                    try clear c2b1
                    try clear c2b2
                    try clear p2
                    try clear c3
                    try clear c3b0
                    try clear c3b1
                    try clear c5
                    try clear c10
                    try clear c10b0
                    try clear c11
                    try clear c11b0
                    try clear c12
                    try clear c12b0
                    try clear p13
                    try clear q13
                    try clear hx13
                    try clear c16
                    try clear c16b0
                    try clear c16b1
                    try clear hcz15_0
                    try clear hcz15_1
                    try clear hcz15_2
                    try clear hcz15_3
                    try clear hcz17_0
                    try clear hcz17_1
                    try clear hcz17_2
                    try clear hcz17_3
                    try clear hcz18_0
                    try clear hcz18_1
                    try clear hcz18_2
                    try clear hcz18_3
                    try clear hfz15_0
                    try clear hfz15_1
                    try clear hfz15_2
                    try clear hfz15_3
                    try clear hfz17_0
                    try clear hfz17_1
                    try clear hfz17_2
                    try clear hfz17_3
                    try clear hfz18_0
                    try clear hfz18_1
                    try clear hfz18_2
                    try clear hfz18_3
                    try clear hx139_0
                    try clear hx139_1
                    try clear hx139_2
                    try clear hx139_3
                    try clear p139
                    try clear p2
                    try clear q139
                    obtain ⟨kq, x42_12, rfl, HA, HJ12, HO_6, BK140, HB⟩ := hcut
                    cases kq with
                    | zero => exact absurd HA.out (by simp [doorwardref12_Check.j1])
                    | succ kj12 =>
                      have H := HA.out
                      clear HA
                      simp only [doorwardref12_Check.j1] at H
                      by_cases c19 : x42_12 = true
                      · subst c19
                        have H1 : (if 0 ≤ x30_1 then (if x30_1 < (t135.length : Int) then (if ((rd_L6 t135 x30_1).length : Int) > 0 then (if 0 ≤ ((rd_T28 l0 x30_1).f3) then (if ((rd_T28 l0 x30_1).f3) < ((rd_L6 t135 x30_1).length : Int) then (if (rdOf false (rd_L6 t135 x30_1) ((rd_T28 l0 x30_1).f3) = true) then (doorwardref12_Check.l0 kj12 t135 l0 (l0.length : Int) (wrap64 (x30_1 + 1))) else (some (x30_1, 51))) else (none)) else (none)) else (doorwardref12_Check.l0 kj12 t135 l0 (l0.length : Int) (wrap64 (x30_1 + 1)))) else (none)) else (none)) = some (r1, r2) := by rw [if_pos rfl] at H; exact H
                        clear H
                        have H := H1
                        clear H1
                        by_cases c20 : 0 ≤ x30_1
                        · rw [if_pos c20] at H
                          have c20b0 : decide (0 ≤ x30_1) = true := decide_eq_true c20
                          clear c20
                          by_cases c21 : x30_1 < (t135.length : Int)
                          · rw [if_pos c21] at H
                            have c21b0 : decide (x30_1 < (t135.length : Int)) = true := decide_eq_true c21
                            clear c21
                            by_cases c22 : ((rd_L6 t135 x30_1).length : Int) > 0
                            · rw [if_pos c22] at H
                              have c22b0 : decide (0 < ((rd_L6 t135 x30_1).length : Int)) = true := decide_eq_true c22
                              have c22b1 : decide (0 < (rd_L6 t135 x30_1).length) = true := decide_eq_true (by omega)
                              clear c22
                              by_cases c23 : 0 ≤ ((rd_T28 l0 x30_1).f3)
                              · rw [if_pos c23] at H
                                have c23b0 : decide (0 ≤ ((rd_T28 l0 x30_1).f3)) = true := decide_eq_true c23
                                clear c23
                                by_cases c24 : ((rd_T28 l0 x30_1).f3) < ((rd_L6 t135 x30_1).length : Int)
                                · rw [if_pos c24] at H
                                  have c24b0 : decide (((rd_T28 l0 x30_1).f3) < ((rd_L6 t135 x30_1).length : Int)) = true := decide_eq_true c24
                                  clear c24
                                  obtain ⟨bq25, hbq25⟩ : ∃ b_ : Bool, b_ = (rdOf false (rd_L6 t135 x30_1) ((rd_T28 l0 x30_1).f3)) := ⟨_, rfl⟩
                                  replace H : (if (bq25 = true) then (doorwardref12_Check.l0 kj12 t135 l0 (l0.length : Int) (wrap64 (x30_1 + 1))) else (some (x30_1, 51))) = some (r1, r2) := by rw [← hbq25] at H; exact H
                                  have Nbq25 := Aside0.mk hbq25
                                  clear hbq25
                                  by_cases c26 : (bq25 = true)
                                  · subst c26
                                    have H1 : (doorwardref12_Check.l0 kj12 t135 l0 (l0.length : Int) (wrap64 (x30_1 + 1))) = some (r1, r2) := by rw [if_pos rfl] at H; exact H
                                    clear H
                                    have H := H1
                                    clear H1
                                    have H' := Aside0.mk H
                                    clear H
                                    obtain ⟨Ao27, co27, eo27⟩ := Kd.S_slice HO_6.out
                                    subst eo27
                                    have p141 : 0 ≤ (x30_1 : Int) := of_decide_eq_true (by first | (with_reducible assumption) | assumption)
                                    have q141 : x30_1 < (t135.length : Int) := of_decide_eq_true (by first | (with_reducible assumption) | assumption)
                                    obtain ⟨ad141, A141_0, c141_0, e141, hx141_0, hl141_0, hi141_0⟩ := at_L6 (Kd.S_reads' HO_6.out).2.2 x30_1 p141 q141
                                    cases e141
                                    obtain ⟨ce141, hce141, hMe141, hcc141⟩ := Kd.S_get HO_6.out [] x30_1 p141 (by first | exact q141 | exact of_decide_eq_true (by first | (with_reducible assumption) | assumption) | (have e_ := (Kd.S_reads' HO_6.out).1; omega))
                                    obtain ⟨ve141_0, rfl, ge141_0⟩ := hMe141
                                    have hv141_0 := hcc141 0 _ rfl
                                    rw [Nat.add_zero, show ((Kd.slice 4 Kd.bool)).sz = 1 from rfl, Nat.mul_one] at hv141_0
                                    replace hv141_0 := Option.some.inj (hv141_0.symm.trans hx141_0)
                                    rw [hv141_0] at ge141_0
                                    have HL141_0 := Aside0.mk (show Kd.R Kd.bool 4 _ _ _ _ (rd_L6 t135 x30_1) from ge141_0)
                                    clear hv141_0 ge141_0
                                    clear hcc141 hce141
                                    have HR141_0 := Aside0.mk hi141_0
                                    have HC141_0 := Aside0.mk hl141_0
                                    clear hi141_0 hl141_0
                                    replace p141 := eq_true p141
                                    replace q141 := eq_true q141
                                    have p142 : 0 ≤ (x30_1 : Int) := of_decide_eq_true (by first | (with_reducible assumption) | assumption)
                                    have q142 : x30_1 < (t135.length : Int) := of_decide_eq_true (by first | (with_reducible assumption) | assumption)
                                    obtain ⟨ad142, A142_0, c142_0, e142, hx142_0, hl142_0, hi142_0⟩ := at_L6 (Kd.S_reads' HO_6.out).2.2 x30_1 p142 q142
                                    obtain rfl : ad141 = ad142 := (by injection e142)
                                    obtain ⟨ce142, hce142, hMe142, hcc142⟩ := Kd.S_get HO_6.out [] x30_1 p142 (by first | exact q142 | exact of_decide_eq_true (by first | (with_reducible assumption) | assumption) | (have e_ := (Kd.S_reads' HO_6.out).1; omega))
                                    obtain ⟨ve142_0, rfl, ge142_0⟩ := hMe142
                                    have hv142_0 := hcc142 0 _ rfl
                                    rw [Nat.add_zero, show ((Kd.slice 4 Kd.bool)).sz = 1 from rfl, Nat.mul_one] at hv142_0
                                    replace hv142_0 := Option.some.inj (hv142_0.symm.trans hx142_0)
                                    rw [hv142_0] at ge142_0
                                    have HL142_0 := Aside0.mk (show Kd.R Kd.bool 4 _ _ _ _ (rd_L6 t135 x30_1) from ge142_0)
                                    clear hv142_0 ge142_0
                                    clear hcc142 hce142
                                    have HR142_0 := Aside0.mk hi142_0
                                    have HC142_0 := Aside0.mk hl142_0
                                    clear hi142_0 hl142_0
                                    replace p142 := eq_true p142
                                    replace q142 := eq_true q142
                                    have ea_ := Option.some.inj (hx141_0.symm.trans hx142_0)
                                    injection ea_ with ea_ en_ ec_
                                    subst ea_
                                    subst ec_
                                    clear en_
                                    have hcz28_0 : wc.cell? ⟨gb140, 0, none⟩ = some (.int .i64 ((rd_T28 l0 x30_1).f0)) := (blk_cell BK140.out 0).trans rfl
                                    have hcz28_1 : wc.cell? ⟨gb140, 1, none⟩ = some (.int .i64 ((rd_T28 l0 x30_1).f1)) := (blk_cell BK140.out 1).trans rfl
                                    have hcz28_2 : wc.cell? ⟨gb140, 2, none⟩ = some (.int .i64 ((rd_T28 l0 x30_1).f2)) := (blk_cell BK140.out 2).trans rfl
                                    have hcz28_3 : wc.cell? ⟨gb140, 3, none⟩ = some (.int .u32 ((rd_T28 l0 x30_1).f3)) := (blk_cell BK140.out 3).trans rfl
                                    have hfz28_0 := blk_frozen BK140.out 0
                                    have hfz28_1 := blk_frozen BK140.out 1
                                    have hfz28_2 := blk_frozen BK140.out 2
                                    have hfz28_3 := blk_frozen BK140.out 3
                                    have p143 : 0 ≤ (((rd_T28 l0 x30_1).f3) : Int) := of_decide_eq_true (by first | (with_reducible assumption) | assumption)
                                    have q143 : ((rd_T28 l0 x30_1).f3) < ((rd_L6 t135 x30_1).length : Int) := of_decide_eq_true (by first | (with_reducible assumption) | assumption)
                                    obtain ⟨ad143, e143, hx143_0⟩ := Kd.at_bool (by repeat (first | (with_reducible exact HR142_0.out) | (with_reducible refine Kd.C_alloc ?_ _) | (with_reducible refine Kd.C_drewN ?_ _) | (with_reducible refine Kd.C_drew ?_) | exact HR142_0.out)) ((rd_T28 l0 x30_1).f3) p143 q143
                                    (try rw [← Nbq25.out] at hx143_0)
                                    cases e143
                                    replace p143 := eq_true p143
                                    replace q143 := eq_true q143
                                    go_wp2
                                    repeat (go_quiet (fail); try go_wp2)
                                    go_roundg kj12
                                    case measure => have := HK1.out; have := HJ12.out; omega
                                    case rel => exact ⟨(wrap64 (x30_1 + 1)), (by first | rfl | (simp; done) | (simp [*]; done)), H', ⟨by have := HK1.out; have := HJ12.out; omega⟩, ⟨by (with_reducible repeat (first | apply Kd.S_alloc | apply Kd.S_drewN | apply Kd.S_drew)); exact HO_6.out⟩, ⟨by repeat (first | (with_reducible first | exact HB.out | apply below_alloc | apply pw_below_drewN | apply below_drew1 | refine below_set ?_ GE140.out) | exact HB.out)⟩⟩
                                  · replace c26 := Bool.eq_false_iff.mpr c26
                                    subst c26
                                    have H1 : (some (x30_1, 51)) = some (r1, r2) := by rw [if_neg (show ¬ (false = true) by decide)] at H; exact H
                                    clear H
                                    have H := H1
                                    clear H1
                                    simp only [Option.some.injEq, Prod.mk.injEq] at H
                                    obtain ⟨rfl, rfl⟩ := H
                                    obtain ⟨Ao29, co29, eo29⟩ := Kd.S_slice HO_6.out
                                    subst eo29
                                    have p141 : 0 ≤ (x30_1 : Int) := of_decide_eq_true (by first | (with_reducible assumption) | assumption)
                                    have q141 : x30_1 < (t135.length : Int) := of_decide_eq_true (by first | (with_reducible assumption) | assumption)
                                    obtain ⟨ad141, A141_0, c141_0, e141, hx141_0, hl141_0, hi141_0⟩ := at_L6 (Kd.S_reads' HO_6.out).2.2 x30_1 p141 q141
                                    cases e141
                                    obtain ⟨ce141, hce141, hMe141, hcc141⟩ := Kd.S_get HO_6.out [] x30_1 p141 (by first | exact q141 | exact of_decide_eq_true (by first | (with_reducible assumption) | assumption) | (have e_ := (Kd.S_reads' HO_6.out).1; omega))
                                    obtain ⟨ve141_0, rfl, ge141_0⟩ := hMe141
                                    have hv141_0 := hcc141 0 _ rfl
                                    rw [Nat.add_zero, show ((Kd.slice 4 Kd.bool)).sz = 1 from rfl, Nat.mul_one] at hv141_0
                                    replace hv141_0 := Option.some.inj (hv141_0.symm.trans hx141_0)
                                    rw [hv141_0] at ge141_0
                                    have HL141_0 := Aside0.mk (show Kd.R Kd.bool 4 _ _ _ _ (rd_L6 t135 x30_1) from ge141_0)
                                    clear hv141_0 ge141_0
                                    clear hcc141 hce141
                                    have HR141_0 := Aside0.mk hi141_0
                                    have HC141_0 := Aside0.mk hl141_0
                                    clear hi141_0 hl141_0
                                    replace p141 := eq_true p141
                                    replace q141 := eq_true q141
                                    have p142 : 0 ≤ (x30_1 : Int) := of_decide_eq_true (by first | (with_reducible assumption) | assumption)
                                    have q142 : x30_1 < (t135.length : Int) := of_decide_eq_true (by first | (with_reducible assumption) | assumption)
                                    obtain ⟨ad142, A142_0, c142_0, e142, hx142_0, hl142_0, hi142_0⟩ := at_L6 (Kd.S_reads' HO_6.out).2.2 x30_1 p142 q142
                                    obtain rfl : ad141 = ad142 := (by injection e142)
                                    obtain ⟨ce142, hce142, hMe142, hcc142⟩ := Kd.S_get HO_6.out [] x30_1 p142 (by first | exact q142 | exact of_decide_eq_true (by first | (with_reducible assumption) | assumption) | (have e_ := (Kd.S_reads' HO_6.out).1; omega))
                                    obtain ⟨ve142_0, rfl, ge142_0⟩ := hMe142
                                    have hv142_0 := hcc142 0 _ rfl
                                    rw [Nat.add_zero, show ((Kd.slice 4 Kd.bool)).sz = 1 from rfl, Nat.mul_one] at hv142_0
                                    replace hv142_0 := Option.some.inj (hv142_0.symm.trans hx142_0)
                                    rw [hv142_0] at ge142_0
                                    have HL142_0 := Aside0.mk (show Kd.R Kd.bool 4 _ _ _ _ (rd_L6 t135 x30_1) from ge142_0)
                                    clear hv142_0 ge142_0
                                    clear hcc142 hce142
                                    have HR142_0 := Aside0.mk hi142_0
                                    have HC142_0 := Aside0.mk hl142_0
                                    clear hi142_0 hl142_0
                                    replace p142 := eq_true p142
                                    replace q142 := eq_true q142
                                    have ea_ := Option.some.inj (hx141_0.symm.trans hx142_0)
                                    injection ea_ with ea_ en_ ec_
                                    subst ea_
                                    subst ec_
                                    clear en_
                                    have hcz30_0 : wc.cell? ⟨gb140, 0, none⟩ = some (.int .i64 ((rd_T28 l0 x30_1).f0)) := (blk_cell BK140.out 0).trans rfl
                                    have hcz30_1 : wc.cell? ⟨gb140, 1, none⟩ = some (.int .i64 ((rd_T28 l0 x30_1).f1)) := (blk_cell BK140.out 1).trans rfl
                                    have hcz30_2 : wc.cell? ⟨gb140, 2, none⟩ = some (.int .i64 ((rd_T28 l0 x30_1).f2)) := (blk_cell BK140.out 2).trans rfl
                                    have hcz30_3 : wc.cell? ⟨gb140, 3, none⟩ = some (.int .u32 ((rd_T28 l0 x30_1).f3)) := (blk_cell BK140.out 3).trans rfl
                                    have hfz30_0 := blk_frozen BK140.out 0
                                    have hfz30_1 := blk_frozen BK140.out 1
                                    have hfz30_2 := blk_frozen BK140.out 2
                                    have hfz30_3 := blk_frozen BK140.out 3
                                    have p143 : 0 ≤ (((rd_T28 l0 x30_1).f3) : Int) := of_decide_eq_true (by first | (with_reducible assumption) | assumption)
                                    have q143 : ((rd_T28 l0 x30_1).f3) < ((rd_L6 t135 x30_1).length : Int) := of_decide_eq_true (by first | (with_reducible assumption) | assumption)
                                    obtain ⟨ad143, e143, hx143_0⟩ := Kd.at_bool (by repeat (first | (with_reducible exact HR142_0.out) | (with_reducible refine Kd.C_alloc ?_ _) | (with_reducible refine Kd.C_drewN ?_ _) | (with_reducible refine Kd.C_drew ?_) | exact HR142_0.out)) ((rd_T28 l0 x30_1).f3) p143 q143
                                    (try rw [← Nbq25.out] at hx143_0)
                                    cases e143
                                    replace p143 := eq_true p143
                                    replace q143 := eq_true q143
                                    go_wp2
                                    repeat (go_quiet (fail); try go_wp2)
                                    go_ret2
                                    exact ⟨by first | rfl | (simp [errW_none, errW_some] <;> rfl) | (simp [*, errW_none, errW_some] <;> rfl), by repeat (first | (with_reducible first | exact HB.out | apply below_alloc | apply pw_below_drewN | apply below_drew1 | refine below_set ?_ GE140.out) | exact HB.out)⟩
                                · rw [if_neg c24] at H
                                  exact absurd H (by simp)
                              · rw [if_neg c23] at H
                                exact absurd H (by simp)
                            · rw [if_neg c22] at H
                              have c22b0 : decide (0 < ((rd_L6 t135 x30_1).length : Int)) = false := decide_eq_false c22
                              have c22b1 : decide (0 < (rd_L6 t135 x30_1).length) = false := decide_eq_false (by omega)
                              clear c22
                              have H' := Aside0.mk H
                              clear H
                              obtain ⟨Ao31, co31, eo31⟩ := Kd.S_slice HO_6.out
                              subst eo31
                              have p141 : 0 ≤ (x30_1 : Int) := of_decide_eq_true (by first | (with_reducible assumption) | assumption)
                              have q141 : x30_1 < (t135.length : Int) := of_decide_eq_true (by first | (with_reducible assumption) | assumption)
                              obtain ⟨ad141, A141_0, c141_0, e141, hx141_0, hl141_0, hi141_0⟩ := at_L6 (Kd.S_reads' HO_6.out).2.2 x30_1 p141 q141
                              cases e141
                              obtain ⟨ce141, hce141, hMe141, hcc141⟩ := Kd.S_get HO_6.out [] x30_1 p141 (by first | exact q141 | exact of_decide_eq_true (by first | (with_reducible assumption) | assumption) | (have e_ := (Kd.S_reads' HO_6.out).1; omega))
                              obtain ⟨ve141_0, rfl, ge141_0⟩ := hMe141
                              have hv141_0 := hcc141 0 _ rfl
                              rw [Nat.add_zero, show ((Kd.slice 4 Kd.bool)).sz = 1 from rfl, Nat.mul_one] at hv141_0
                              replace hv141_0 := Option.some.inj (hv141_0.symm.trans hx141_0)
                              rw [hv141_0] at ge141_0
                              have HL141_0 := Aside0.mk (show Kd.R Kd.bool 4 _ _ _ _ (rd_L6 t135 x30_1) from ge141_0)
                              clear hv141_0 ge141_0
                              clear hcc141 hce141
                              have HR141_0 := Aside0.mk hi141_0
                              have HC141_0 := Aside0.mk hl141_0
                              clear hi141_0 hl141_0
                              replace p141 := eq_true p141
                              replace q141 := eq_true q141
                              go_wp2
                              repeat (go_quiet (fail); try go_wp2)
                              go_roundg kj12
                              case measure => have := HK1.out; have := HJ12.out; omega
                              case rel => exact ⟨(wrap64 (x30_1 + 1)), (by first | rfl | (simp; done) | (simp [*]; done)), H', ⟨by have := HK1.out; have := HJ12.out; omega⟩, ⟨by (with_reducible repeat (first | apply Kd.S_alloc | apply Kd.S_drewN | apply Kd.S_drew)); exact HO_6.out⟩, ⟨by repeat (first | (with_reducible first | exact HB.out | apply below_alloc | apply pw_below_drewN | apply below_drew1 | refine below_set ?_ GE140.out) | exact HB.out)⟩⟩
                          · rw [if_neg c21] at H
                            exact absurd H (by simp)
                        · rw [if_neg c20] at H
                          exact absurd H (by simp)
                      · replace c19 := Bool.eq_false_iff.mpr c19
                        subst c19
                        have H1 : (doorwardref12_Check.l0 kj12 t135 l0 (l0.length : Int) (wrap64 (x30_1 + 1))) = some (r1, r2) := by rw [if_neg (show ¬ (false = true) by decide)] at H; exact H
                        clear H
                        have H := H1
                        clear H1
                        have H' := Aside0.mk H
                        clear H
                        go_wp2
                        repeat (go_quiet (fail); try go_wp2)
                        go_roundg kj12
                        case measure => have := HK1.out; have := HJ12.out; omega
                        case rel => exact ⟨(wrap64 (x30_1 + 1)), (by first | rfl | (simp; done) | (simp [*]; done)), H', ⟨by have := HK1.out; have := HJ12.out; omega⟩, ⟨by (with_reducible repeat (first | apply Kd.S_alloc | apply Kd.S_drewN | apply Kd.S_drew)); exact HO_6.out⟩, ⟨by repeat (first | (with_reducible first | exact HB.out | apply below_alloc | apply pw_below_drewN | apply below_drew1 | refine below_set ?_ GE140.out) | exact HB.out)⟩⟩
                · rw [if_neg c12] at H
                  exact absurd H (by simp)
              · rw [if_neg c11] at H
                exact absurd H (by simp)
            · rw [if_neg c10] at H
              have c10b0 : decide (x30_1 < (l0.length : Int)) = false := decide_eq_false c10
              clear c10
              simp only [Option.some.injEq, Prod.mk.injEq] at H
              obtain ⟨rfl, rfl⟩ := H
              go_wp2
              repeat (go_quiet (fail); try go_wp2)
              go_ret2
              exact ⟨by first | rfl | (simp [errW_none, errW_some] <;> rfl) | (simp [*, errW_none, errW_some] <;> rfl), by repeat (first | (with_reducible first | exact HB.out | apply below_alloc | apply pw_below_drewN | apply below_drew1) | exact HB.out)⟩
end Go.Proofs.Ytefkhcijgiagdaa.K1
end
section
namespace Go.Proofs.Ytefkhcijgiagdaa.PCheckTells
open Go.RowKit Go.Proofs.YtefkhcijgiagdaaW.PrintWords Go.Proofs.YtefkhcijgiagdaaW.PrintLast Go.Proofs.YtefkhcijgiagdaaW.PrintMore Go.Proofs.Ytefkhcijgiagdaa.HKnown Go.Proofs.Ytefkhcijgiagdaa.I1 Go.Proofs.Ytefkhcijgiagdaa.QVm Go.Proofs.Ytefkhcijgiagdaa.QLe Go.Proofs.Ytefkhcijgiagdaa.QCheck Go.Proofs.Ytefkhcijgiagdaa.K0 Go.Proofs.Ytefkhcijgiagdaa.HCk Go.Proofs.Ytefkhcijgiagdaa.K3 Go.Proofs.Ytefkhcijgiagdaa.HRch Go.Proofs.Ytefkhcijgiagdaa.K1
set_option linter.unusedVariables false
set_option linter.unusedSimpArgs false
set_option maxRecDepth 100000
attribute [local go_sem] max2_int min2_int max_two min_two IntKind.wrap_u32
def doorwardlaw12_CheckTells.f (k : Nat) (l0 : List S28) : Option Bool :=
  (doorwardlaw12_few.f l0).bind fun t => (check_Check.f t).bind fun p => (doorwardref12_Check.f k t).bind fun q => (check_Cells.f t).bind fun a => (doorwardref12_Cells.f k t).bind fun b => (doorwardlaw12_alive.f).bind fun v => (doorwardref12_Like.f k a.1 b.1).bind fun z =>
    if v = true ∧ p.1 = q.1 ∧ p.2 = q.2 ∧ a.2 = b.2 ∧ z = true then some true else none
set_option maxHeartbeats 4000000 in
theorem doorwardlaw12_CheckTells.calls (k : Nat) (A0 : Option Addr) (c0 : Nat) (l0 : List (S28)) (r : Bool) (w : World) (hr0 : Kd.C k28 w A0 l0.length l0) (hc0 : l0.length ≤ c0) (h : doorwardlaw12_CheckTells.f k l0 = some r) :
    Calls Try.prog 13 #[.slice A0 l0.length c0] w fun e w' => e = .returned (.bool r) ∧ Below w.heap.size w w' := by
  unfold doorwardlaw12_CheckTells.f at h
  obtain ⟨t, h1, h⟩ := Option.bind_eq_some_iff.1 h
  obtain ⟨⟨p1, p2⟩, h2, h⟩ := Option.bind_eq_some_iff.1 h
  obtain ⟨⟨q1, q2⟩, h3, h⟩ := Option.bind_eq_some_iff.1 h
  obtain ⟨⟨a1, a2⟩, h4, h⟩ := Option.bind_eq_some_iff.1 h
  obtain ⟨⟨b1, b2⟩, h5, h⟩ := Option.bind_eq_some_iff.1 h
  obtain ⟨v, h6, h⟩ := Option.bind_eq_some_iff.1 h
  obtain ⟨z, h7, h8⟩ := Option.bind_eq_some_iff.1 h
  simp only at h8 h7
  split at h8
  · rename_i hc
    obtain ⟨rfl, rfl, rfl, rfl, rfl⟩ := hc
    obtain rfl := Option.some.inj h8
    clear h h8
    have H1 := Aside0.mk (doorwardlaw12_few.calls (fun k_ => k_ < w.heap.size) A0 c0 l0 t w (Kd.V_mk hc0 (Kd.C_F k28_heap hr0)) h1)
    have H2 := Aside0.mk (fun A c W (hC : Kd.C k28 W A t.length t) (hl : t.length ≤ c) => check_Check.calls A c t p1 p2 W hC hl h2)
    have H3 := Aside0.mk (fun A c W (hC : Kd.C k28 W A t.length t) (hl : t.length ≤ c) => doorwardref12_Check.calls k A c t p1 p2 W hC hl h3)
    have H4 := Aside0.mk (fun A c W (hC : Kd.C k28 W A t.length t) (hl : t.length ≤ c) => check_Cells.calls A c t a1 a2 W hC hl h4)
    have H5 := Aside0.mk (fun A c W (hC : Kd.C k28 W A t.length t) (hl : t.length ≤ c) => doorwardref12_Cells.calls k A c t b1 a2 W hC hl h5)
    have H6 := Aside0.mk (fun W => doorwardlaw12_alive.calls true W h6)
    have H7 := Aside0.mk (fun A c A' c' W (hC : Kd.C (Kd.slice 4 Kd.bool) W A a1.length a1) (hl : a1.length ≤ c) (hC' : Kd.C (Kd.slice 4 Kd.bool) W A' b1.length b1) (hl' : b1.length ≤ c') => doorwardref12_Like.calls k A c a1 A' c' b1 true W hC hl hC' hl' h7)
    clear h1 h2 h3 h4 h5 h6 h7 hr0
    go_enter Try.func13, Try.ntmps13
    go_wp2_with fail
    refine H1.out.mono ?_
    rintro e w1 ⟨v1, rfl, hv1, hb1⟩
    obtain ⟨A1, c1, rfl⟩ := Kd.V_slice hv1
    have HC1 := Aside0.mk (Kd.V_reads' hv1).2.2
    have HL1 := Aside0.mk (Kd.V_reads' hv1).2.1
    have HB1 := Aside0.mk hb1
    clear hv1 hb1
    go_wp2_with fail
    refine (H2.out _ _ _ HC1.out HL1.out).mono ?_
    rintro e w2 ⟨rfl, hb⟩
    have HC2 := Aside0.mk (Kd.C_below HC1.out hb)
    have HB2 := Aside0.mk (below_step HB1.out hb)
    clear hb
    go_wp2_with fail
    refine (H3.out _ _ _ HC2.out HL1.out).mono ?_
    rintro e w3 ⟨rfl, hb⟩
    have HC3 := Aside0.mk (Kd.C_below HC2.out hb)
    have HB3 := Aside0.mk (below_step HB2.out hb)
    clear hb
    go_wp2_with fail
    refine (H4.out _ _ _ HC3.out HL1.out).mono ?_
    rintro e w4 ⟨v4, rfl, hR4, hb⟩
    obtain ⟨A4, c4, rfl⟩ := Kd.R_slice hR4
    have HK4 := Aside0.mk (Kd.R_reads' hR4).2.2
    have HM4 := Aside0.mk (Kd.R_reads' hR4).2.1
    have HC4 := Aside0.mk (Kd.C_below HC3.out hb)
    have HB4 := Aside0.mk (below_step HB3.out hb)
    clear hb hR4
    go_wp2_with fail
    refine (H5.out _ _ _ HC4.out HL1.out).mono ?_
    rintro e w5 ⟨v5, rfl, hR5, hb⟩
    have hR5' := Kd.S_R hR5
    obtain ⟨A5, c5, rfl⟩ := Kd.R_slice hR5'
    have HK5 := Aside0.mk (Kd.R_reads' hR5').2.2
    have HM5 := Aside0.mk (Kd.R_reads' hR5').2.1
    have HJ5 := Aside0.mk (Kd.C_below HK4.out hb)
    have HB5 := Aside0.mk (below_step HB4.out hb)
    clear hb hR5 hR5'
    go_wp2_with fail
    refine (H6.out _).mono ?_
    rintro e w6 ⟨rfl, hb⟩
    have HK6 := Aside0.mk (Kd.C_below HK5.out hb)
    have HJ6 := Aside0.mk (Kd.C_below HJ5.out hb)
    have HB6 := Aside0.mk (below_step HB5.out hb)
    clear hb
    go_wp2_with fail
    refine (H7.out _ _ _ _ _ HJ6.out HM4.out HK6.out HM5.out).mono ?_
    rintro e w7 ⟨rfl, hb⟩
    have HB7 := Aside0.mk (below_step HB6.out hb.below)
    clear hb
    go_wp2
    go_ret
    exact ⟨rfl, HB7.out⟩
  · cases h8
end Go.Proofs.Ytefkhcijgiagdaa.PCheckTells
end
section
namespace Go.Proofs.Ytefkhcijgiagdaa.Open
open Go.RowKit Go.Proofs.YtefkhcijgiagdaaW.PrintWords
set_option linter.unusedVariables false
set_option linter.unusedSimpArgs false
variable {α β : Type}
/-- A reading (of so much fuel at most) of cells at type t tells a value of kind d, of which Q. -/
def OpensN (P : Program) (fuel : Nat) (d : Kd α) (t : TypeId) (Q : α → Prop) : Prop :=
  P.cellsOf t = d.sz ∧ ∀ (H : Type) (enc : TypeId × Value → H) (W : World) (cs : List Value) (x : DataW H × List MemPlace),
    DataW.trod enc P W 0 (fun _ => true) true fuel t cs = some x → ∃ y, d.K W y cs ∧ Q y
def Opens (P : Program) (d : Kd α) (t : TypeId) (Q : α → Prop) : Prop := ∀ fuel, OpensN P fuel d t Q
section
variable {P : Program} {t e : TypeId} {d : Kd α} {Q : α → Prop} {fuel : Nat}
theorem OpensN.none (h : P.cellsOf t = d.sz) : OpensN P 0 d t Q := ⟨h, fun H enc W cs x hx => by simp [DataW.trod] at hx⟩
theorem one_cell {H : Type} {enc : TypeId × Value → H} {W : World} {cs : List Value} {x : DataW H × List MemPlace} {u : TypeDesc} (hu : P.underlying t = some u) (h1 : (match u with | .struct _ | .array _ _ => true | _ => false) = false)
    (hx : DataW.trod enc P W 0 (fun _ => true) true (fuel + 1) t cs = some x) : ∃ c, cs = [c] := by
  unfold DataW.trod at hx
  rcases cs with _ | ⟨c, _ | ⟨c2, r⟩⟩
  · cases u <;> simp [hu] at hx h1
  · exact ⟨c, rfl⟩
  · cases u <;> simp [hu] at hx h1
theorem Opens.int (k : IntKind) (hu : P.underlying t = some (.int k)) (hc : P.cellsOf t = 1) : Opens P (Kd.int k) t (fun x => (Lit.int k x).wf = true) := by
  intro fuel
  cases fuel with
  | zero => exact OpensN.none hc
  | succ fuel =>
    refine ⟨hc, fun H enc W cs x hx => ?_⟩
    obtain ⟨c, rfl⟩ := one_cell hu rfl hx
    unfold DataW.trod at hx
    cases c <;> simp [hu] at hx
    rename_i k' n
    obtain ⟨⟨rfl, hw⟩, _⟩ := hx
    exact ⟨n, rfl, hw⟩
theorem Opens.bool (hu : P.underlying t = some .bool) (hc : P.cellsOf t = 1) : Opens P Kd.bool t (fun _ => True) := by
  intro fuel
  cases fuel with
  | zero => exact OpensN.none hc
  | succ fuel =>
    refine ⟨hc, fun H enc W cs x hx => ?_⟩
    obtain ⟨c, rfl⟩ := one_cell hu rfl hx
    unfold DataW.trod at hx
    cases c <;> simp [hu] at hx
    rename_i b
    exact ⟨b, rfl, trivial⟩
theorem Opens.string (hu : P.underlying t = some .string) (hc : P.cellsOf t = 1) : Opens P Kd.string t (fun s => s.size ≤ maxLen) := by
  intro fuel
  cases fuel with
  | zero => exact OpensN.none hc
  | succ fuel =>
    refine ⟨hc, fun H enc W cs x hx => ?_⟩
    obtain ⟨c, rfl⟩ := one_cell hu rfl hx
    unfold DataW.trod at hx
    cases c <;> simp [hu] at hx
    rename_i s
    exact ⟨s, rfl, hx.1⟩
/-- The cells of a slice. -/
theorem slice_cell {H : Type} {enc : TypeId × Value → H} {W : World} {cs : List Value} {x : DataW H × List MemPlace} (hu : P.underlying t = some (.slice e)) (hx : DataW.trod enc P W 0 (fun _ => true) true (fuel + 1) t cs = some x) :
    cs = [.slice none 0 0] ∨ ∃ a len cap, cs = [.slice (some a) len cap] ∧ len ≤ cap ∧ cap ≤ maxLen ∧
      ∃ els rest, (List.range len).mapM (fun i => (W.cells? 0 (a.add (i * P.cellsOf e)) (P.cellsOf e)).bind (DataW.trod enc P W 0 (fun _ => true) true fuel e)) = some els ∧ x.1 = .slice (els.map (·.1)) rest := by
  obtain ⟨c, rfl⟩ := one_cell hu rfl hx
  unfold DataW.trod at hx
  cases c <;> try (simp [hu] at hx; done)
  rename_i A len cap
  cases A with
  | none =>
    by_cases h0 : len = 0 ∧ cap = 0
    · obtain ⟨rfl, rfl⟩ := h0
      exact .inl rfl
    · exfalso
      rcases len with _ | len <;> rcases cap with _ | cap <;> simp [hu] at hx h0
  | some a =>
    right
    simp only [hu] at hx
    split at hx
    · rename_i hcnd
      rw [Option.bind_eq_some_iff] at hx
      obtain ⟨els, hels, hx⟩ := hx
      rw [Option.map_eq_some_iff] at hx
      obtain ⟨rest, _, hx⟩ := hx
      exact ⟨a, len, cap, rfl, hcnd.2.1, hcnd.2.2, els, rest.map (·.1), hels, by rw [← hx]⟩
    · simp at hx
theorem OpensN.slice (hu : P.underlying t = some (.slice e)) (hc : P.cellsOf t = 1) (h : OpensN P fuel d e Q) : OpensN P (fuel + 1) (Kd.slice e d) t (fun xs => xs.length ≤ maxLen ∧ ∀ x ∈ xs, Q x) := by
  obtain ⟨hsz, h⟩ := h
  refine ⟨hc, fun H enc W cs x hx => ?_⟩
  rcases slice_cell hu hx with rfl | ⟨a, len, cap, rfl, hlc, hcm, els, rest, hels, _⟩
  · refine ⟨[], ⟨Option.none, 0, rfl, Nat.le_refl _, ?_⟩, by simp, by simp⟩
    exact ⟨rfl, by simp, fun h => absurd h (by simp)⟩
  · skip
    · skip
      have hlen : els.length = len := by simpa using mapM_some_length hels
      have hget := fun i (hi : i < len) => mapM_some_get hels i i (by simp [hi])
      have hall : ∀ i, i < len → ∃ (y : α) (c : List Value), d.K W y c ∧ Q y ∧ c.length = d.sz ∧ ∀ j u, c[j]? = some u → W.cell? (a.add (i * d.sz + j)) = some u := by
        intro i hi
        have hi2 := hget i hi
        rw [List.getElem?_eq_getElem (by omega : i < els.length), Option.bind_eq_some_iff] at hi2
        obtain ⟨c, hcs, hr⟩ := hi2
        obtain ⟨y, hy, hq⟩ := h H enc W c _ hr
        obtain ⟨_, hcl, hcell⟩ := World.cells?_some hcs
        refine ⟨y, c, hy, hq, d.K_len hy, fun j u hj => ?_⟩
        have hjl : j < P.cellsOf e := by
          have : j < c.length := by
            rcases Nat.lt_or_ge j c.length with hlt | hge
            · exact hlt
            · rw [List.getElem?_eq_none hge] at hj; simp at hj
          omega
        have := hcell j hjl
        rw [hj, hsz, Addr.add_add] at this
        exact this
      obtain ⟨ys, hys⟩ : ∃ ys : List α, ys.length = len ∧ ∀ i (hi : i < ys.length), (∃ c : List Value, d.K W ys[i] c ∧ Q ys[i] ∧ c.length = d.sz ∧ ∀ j u, c[j]? = some u → W.cell? (a.add (i * d.sz + j)) = some u) := by
        clear hels hget hlen hlc hcm hx
        induction len with
        | zero => exact ⟨[], rfl, fun i hi => absurd hi (by simp)⟩
        | succ n ih =>
          obtain ⟨ys, hl, hy⟩ := ih (fun i hi => hall i (by omega))
          obtain ⟨y, c, hk, hq, hcl, hcc⟩ := hall n (by omega)
          refine ⟨ys ++ [y], by simp [hl], fun i hi => ?_⟩
          by_cases hin : i < ys.length
          · have := hy i hin
            rw [List.getElem_append_left hin]
            exact this
          · have hie : i = n := by simp at hi; omega
            subst hie
            rw [List.getElem_append_right (by omega)]
            simp only [hl, Nat.sub_self, List.getElem_cons_zero]
            exact ⟨c, hk, hq, hcl, hcc⟩
      obtain ⟨hyl, hy⟩ := hys
      refine ⟨ys, ⟨some a, cap, by rw [hyl], by omega, ?_⟩, by omega, ?_⟩
      · refine ⟨rfl, by rw [hyl]; exact Nat.le_trans hlc hcm, fun _ => ⟨a, rfl, fun j p hj => ?_⟩⟩
        have hjl : j < ys.length := by
          rcases Nat.lt_or_ge j ys.length with hlt | hge
          · exact hlt
          · rw [List.getElem?_eq_none hge] at hj; simp at hj
        obtain ⟨c, hk, hq, hcl, hcc⟩ := hy j hjl
        rw [List.getElem?_eq_getElem hjl] at hj
        obtain rfl := Option.some.inj hj
        exact ⟨c, hcl, hk, hcc⟩
      · intro x hx
        obtain ⟨i, hi, rfl⟩ := List.getElem_of_mem hx
        obtain ⟨c, hk, hq, _⟩ := hy i hi
        exact hq
theorem Opens.slice (hu : P.underlying t = some (.slice e)) (hc : P.cellsOf t = 1) (h : Opens P d e Q) : Opens P (Kd.slice e d) t (fun xs => xs.length ≤ maxLen ∧ ∀ x ∈ xs, Q x) := by
  intro fuel
  cases fuel with
  | zero => exact OpensN.none hc
  | succ fuel => exact OpensN.slice hu hc (h fuel)
end
/-- The fields from one on, read one by one, tell a value of kind d out of the cells from o on. -/
def OpensF (P : Program) (fuel : Nat) (fs : List Field) (o : Nat) (d : Kd α) (Q : α → Prop) : Prop :=
  ∀ (H : Type) (enc : TypeId × Value → H) (W : World) (cs : List Value) (xs : List (DataW H × List MemPlace)),
    (fs.mapM fun f => DataW.trod enc P W 0 (fun _ => true) true fuel f.type ((cs.drop f.offset).take (P.cellsOf f.type))) = some xs → cs.length = o + d.sz → ∃ y, d.K W y (cs.drop o) ∧ Q y
section
variable {P : Program} {t : TypeId} {a : Kd α} {b : Kd β} {Q : α → Prop} {R : β → Prop} {fuel o : Nat} {f : Field} {fs : List Field}
theorem OpensF.last (ho : f.offset = o) (h : OpensN P fuel a f.type Q) : OpensF P fuel [f] o a Q := by
  intro H enc W cs xs hx hl
  simp only [List.mapM_cons, List.mapM_nil] at hx
  rw [Option.bind_eq_bind, Option.bind_eq_some_iff] at hx
  obtain ⟨y, hy, _⟩ := hx
  rw [ho, h.1, List.take_of_length_le (by rw [List.length_drop]; omega)] at hy
  exact h.2 H enc W _ _ hy
theorem OpensF.cons (ho : f.offset = o) (h : OpensN P fuel a f.type Q) (hs : OpensF P fuel fs (o + a.sz) b R) : OpensF P fuel (f :: fs) o (Kd.pair a b) (fun x => Q x.1 ∧ R x.2) := by
  intro H enc W cs xs hx hl
  simp only [List.mapM_cons] at hx
  rw [Option.bind_eq_bind, Option.bind_eq_some_iff] at hx
  obtain ⟨y, hy, hx⟩ := hx
  rw [Option.bind_eq_bind, Option.bind_eq_some_iff] at hx
  obtain ⟨ys, hys, _⟩ := hx
  rw [ho, h.1] at hy
  obtain ⟨u, hu, hq⟩ := h.2 H enc W _ _ hy
  obtain ⟨v, hv, hr⟩ := hs H enc W cs ys hys (by have : (Kd.pair a b).sz = a.sz + b.sz := rfl; omega)
  refine ⟨(u, v), ⟨(cs.drop o).take a.sz, (cs.drop o).drop a.sz, (List.take_append_drop _ _).symm, hu, ?_⟩, hq, hr⟩
  rw [List.drop_drop]
  exact hv
theorem OpensF.iso {γ : Type} (g : γ → α) (inv : α → γ) (hg : ∀ x, g (inv x) = x) (h : OpensF P fuel fs o a Q) : OpensF P fuel fs o (Kd.iso a g) (fun x => Q (g x)) := by
  intro H enc W cs xs hx hl
  obtain ⟨y, hy, hq⟩ := h H enc W cs xs hx hl
  exact ⟨inv y, by show a.K W (g (inv y)) _; rw [hg]; exact hy, by show Q (g (inv y)); rw [hg]; exact hq⟩
theorem OpensN.struct {gs : Array Field} (hu : P.underlying t = some (.struct gs)) (hc : P.cellsOf t = a.sz) (h : OpensF P fuel gs.toList 0 a Q) : OpensN P (fuel + 1) a t Q := by
  refine ⟨hc, fun H enc W cs x hx => ?_⟩
  have hx2 : (if cs.length = P.cellsOf t then (gs.toList.mapM fun f => DataW.trod enc P W 0 (fun _ => true) true fuel f.type ((cs.drop f.offset).take (P.cellsOf f.type))).map fun xs => (DataW.agg (xs.map (·.1)), xs.flatMap (·.2)) else Option.none) = some x := by
    rw [← hx]
    conv => rhs; unfold DataW.trod
    simp only [hu]
  split at hx2
  · rename_i hl
    rw [Option.map_eq_some_iff] at hx2
    obtain ⟨xs, hxs, _⟩ := hx2
    have := h H enc W cs xs hxs (by omega)
    simpa using this
  · simp at hx2
/-- The places of an array, read one by one. -/
def OpensA (P : Program) (fuel : Nat) (e : TypeId) (is : List Nat) (o : Nat) (d : Kd α) (Q : α → Prop) : Prop :=
  ∀ (H : Type) (enc : TypeId × Value → H) (W : World) (cs : List Value) (xs : List (DataW H × List MemPlace)),
    (is.mapM fun i => DataW.trod enc P W 0 (fun _ => true) true fuel e ((cs.drop (i * P.cellsOf e)).take (P.cellsOf e))) = some xs → cs.length = o + d.sz → ∃ y, d.K W y (cs.drop o) ∧ Q y
theorem OpensA.last {e : TypeId} {i : Nat} (ho : i * P.cellsOf e = o) (h : OpensN P fuel a e Q) : OpensA P fuel e [i] o a Q := by
  intro H enc W cs xs hx hl
  simp only [List.mapM_cons, List.mapM_nil] at hx
  rw [Option.bind_eq_bind, Option.bind_eq_some_iff] at hx
  obtain ⟨y, hy, _⟩ := hx
  rw [ho, h.1, List.take_of_length_le (by rw [List.length_drop]; omega)] at hy
  exact h.2 H enc W _ _ hy
theorem OpensA.cons {e : TypeId} {i : Nat} {is : List Nat} (ho : i * P.cellsOf e = o) (h : OpensN P fuel a e Q) (hs : OpensA P fuel e is (o + a.sz) b R) : OpensA P fuel e (i :: is) o (Kd.pair a b) (fun x => Q x.1 ∧ R x.2) := by
  intro H enc W cs xs hx hl
  simp only [List.mapM_cons] at hx
  rw [Option.bind_eq_bind, Option.bind_eq_some_iff] at hx
  obtain ⟨y, hy, hx⟩ := hx
  rw [Option.bind_eq_bind, Option.bind_eq_some_iff] at hx
  obtain ⟨ys, hys, _⟩ := hx
  rw [ho, h.1] at hy
  obtain ⟨u, hu, hq⟩ := h.2 H enc W _ _ hy
  obtain ⟨v, hv, hr⟩ := hs H enc W cs ys hys (by have : (Kd.pair a b).sz = a.sz + b.sz := rfl; omega)
  refine ⟨(u, v), ⟨(cs.drop o).take a.sz, (cs.drop o).drop a.sz, (List.take_append_drop _ _).symm, hu, ?_⟩, hq, hr⟩
  rw [List.drop_drop]
  exact hv
theorem OpensA.iso {γ : Type} {e : TypeId} {is : List Nat} (g : γ → α) (inv : α → γ) (hg : ∀ x, g (inv x) = x) (h : OpensA P fuel e is o a Q) : OpensA P fuel e is o (Kd.iso a g) (fun x => Q (g x)) := by
  intro H enc W cs xs hx hl
  obtain ⟨y, hy, hq⟩ := h H enc W cs xs hx hl
  exact ⟨inv y, by show a.K W (g (inv y)) _; rw [hg]; exact hy, by show Q (g (inv y)); rw [hg]; exact hq⟩
theorem OpensN.array {n : Nat} {e : TypeId} (hu : P.underlying t = some (.array n e)) (hc : P.cellsOf t = a.sz) (h : OpensA P fuel e (List.range n) 0 a Q) : OpensN P (fuel + 1) a t Q := by
  refine ⟨hc, fun H enc W cs x hx => ?_⟩
  have hx2 : (if cs.length = P.cellsOf t then ((List.range n).mapM fun i => DataW.trod enc P W 0 (fun _ => true) true fuel e ((cs.drop (i * P.cellsOf e)).take (P.cellsOf e))).map fun xs => (DataW.agg (xs.map (·.1)), xs.flatMap (·.2)) else Option.none) = some x := by
    rw [← hx]
    conv => rhs; unfold DataW.trod
    simp only [hu]
  split at hx2
  · rename_i hl
    rw [Option.map_eq_some_iff] at hx2
    obtain ⟨xs, hxs, _⟩ := hx2
    have := h H enc W cs xs hxs (by omega)
    simpa using this
  · simp at hx2
end
section
variable {P : Program} {t e : TypeId} {d : Kd α} {Q : α → Prop} {H : Type} {enc : TypeId × Value → H} {W : World} {D : DataW H} {p : List MemPlace} {v : Value}
/-- A slice that came in. -/
theorem slice_of {r : Reach} {base : Nat} (hu : P.underlying t = some (.slice e)) (hc : P.cellsOf t = 1) (hv : Value.okWide P W r base t v) (ho : Opens P d e Q) (h : DataW.Trod enc P W 0 (fun _ => true) true t v D p) :
    ∃ A c xs, v = .slice A (List.length xs) c ∧ xs.length ≤ c ∧ d.C W A xs.length xs ∧ xs.length ≤ maxLen ∧ ∀ x ∈ xs, Q x := by
  obtain ⟨a, len, cap, rfl⟩ := Go.WideShapes.okWide_slice hu hv
  obtain ⟨fuel, hf⟩ := h
  obtain ⟨xs, ⟨A, c, hcs, hl, hC⟩, hq, hall⟩ := (Opens.slice hu hc ho fuel).2 H enc W _ _ hf
  have he : Value.slice a len cap = .slice A xs.length c := by
    have : (Value.slice a len cap).cells.toList = [Value.slice a len cap] := rfl
    rw [this] at hcs
    exact (List.cons.inj hcs).1
  exact ⟨A, c, xs, he, hl, hC, hq, hall⟩
/-- .. and how long it is. -/
theorem slice_sized {ts : List TypeId} {ds : List (DataW H)} {j B : Nat} {A : Option Addr} {n c : Nat} (hsz : (DataW.weightsEach P ts ds).all (· ≤ reachBytes) = true) (ht : ts[j]? = some t) (hd : ds[j]? = some D) (hu : P.underlying t = some (.slice e)) (hB : P.bytesOf e = B)
    (h : DataW.Trod enc P W 0 (fun _ => true) true t (.slice A n c) D p) : n * B ≤ 140737488351232 := by
  obtain ⟨fuel, hf⟩ := h
  cases fuel with
  | zero => simp [DataW.trod] at hf
  | succ fuel =>
    have hcl : (Value.slice A n c).cells.toList = [Value.slice A n c] := rfl
    rw [hcl] at hf
    rcases slice_cell hu hf with hs | ⟨a, len, cap, hs, hlc, hcm, els, rest, hels, hx⟩
    · have := (List.cons.inj hs).1
      injection this with _ h2 _
      rw [h2, Nat.zero_mul]
      omega
    · have h1 := (List.cons.inj hs).1
      injection h1 with _ h2 _
      have hlen : els.length = len := by simpa using mapM_some_length hels
      have hx2 : D = .slice (els.map (·.1)) rest := hx
      subst hx2
      have z := sized_slice hsz ht hd hu
      rw [hB, List.length_map, hlen, ← h2] at z
      exact Nat.le_trans (Nat.mul_le_mul_right _ (Nat.le_add_right _ _)) z
end
end Go.Proofs.Ytefkhcijgiagdaa.Open
end
section
namespace Go.Proofs.Ytefkhcijgiagdaa.StatCheckTells
open Go.RowKit Go.Proofs.YtefkhcijgiagdaaW.PrintWords Go.Proofs.Ytefkhcijgiagdaa.Open Go.Proofs.Ytefkhcijgiagdaa.PCheckTells Go.Proofs.Ytefkhcijgiagdaa.Le Go.Proofs.Ytefkhcijgiagdaa.HKnown Go.Proofs.Ytefkhcijgiagdaa.HPut Go.Proofs.Ytefkhcijgiagdaa.I1 Go.Proofs.Ytefkhcijgiagdaa.E1 Go.Proofs.Ytefkhcijgiagdaa.HAsm Go.Proofs.Ytefkhcijgiagdaa.E2 Go.Proofs.Ytefkhcijgiagdaa.HAll Go.Proofs.Ytefkhcijgiagdaa.V0 Go.Proofs.Ytefkhcijgiagdaa.HVm Go.Proofs.Ytefkhcijgiagdaa.K0 Go.Proofs.Ytefkhcijgiagdaa.HCk Go.Proofs.Ytefkhcijgiagdaa.K3 Go.Proofs.Ytefkhcijgiagdaa.HRch Go.Proofs.Ytefkhcijgiagdaa.K1
set_option maxRecDepth 100000
def Q3 (x : Int) : Prop := (Lit.int .i64 x).wf = true
theorem opens3 : Opens Try.prog (Kd.int .i64) 3 Q3 := Opens.int .i64 Try.underlying3 (by kernel_rfl)
def Q24 (x : Int) : Prop := (Lit.int .u32 x).wf = true
theorem opens24 : Opens Try.prog (Kd.int .u32) 24 Q24 := Opens.int .u32 Try.underlying24 (by kernel_rfl)
def Q28 (x : S28) : Prop := Q3 x.f0 ∧ Q3 x.f1 ∧ Q3 x.f2 ∧ Q24 x.f3
theorem opens28 : Opens Try.prog k28 28 Q28 := by
  intro fuel
  cases fuel with
  | zero => exact OpensN.none (by kernel_rfl)
  | succ fuel => exact OpensN.struct Try.underlying28 (by kernel_rfl) (OpensF.iso (fun x : S28 => (x.f0, x.f1, x.f2, x.f3)) (fun p => ⟨p.1, p.2.1, p.2.2.1, p.2.2.2⟩) (fun _ => rfl) (OpensF.cons (by kernel_rfl) (opens3 fuel) (OpensF.cons (by kernel_rfl) (opens3 fuel) (OpensF.cons (by kernel_rfl) (opens3 fuel) (OpensF.last (by kernel_rfl) (opens24 fuel))))))
def Stat : Prop := ∀ (a0 : List S28), a0.length ≤ maxLen → a0.length * 32 ≤ 140737488351232 → (∀ x ∈ a0, Q28 x) → ∃ k, doorwardlaw12_CheckTells.f k a0 = some true
end Go.Proofs.Ytefkhcijgiagdaa.StatCheckTells
end
section
namespace Go.Proofs.Ytefkhcijgiagdaa.QCk
open Go.RowKit Go.Proofs.YtefkhcijgiagdaaW.PrintWords Go.Proofs.YtefkhcijgiagdaaW.PrintLast Go.Proofs.YtefkhcijgiagdaaW.PrintMore Go.Proofs.Ytefkhcijgiagdaa.HKnown Go.Proofs.Ytefkhcijgiagdaa.I1 Go.Proofs.Ytefkhcijgiagdaa.K0 Go.Proofs.Ytefkhcijgiagdaa.K3 Go.Proofs.Ytefkhcijgiagdaa.QVm Go.Proofs.Ytefkhcijgiagdaa.QNum Go.Proofs.Ytefkhcijgiagdaa.QCheck Go.Proofs.Ytefkhcijgiagdaa.HCk
set_option linter.unusedVariables false
set_option linter.unusedSimpArgs false
theorem check_f (l : List S28) (hl : l.length ≤ 100000) (hi : ∀ i ∈ l, IW i) : check_Check.f l = some (checkV l) := if_pos ⟨hl, hi⟩
theorem cells_f (l : List S28) (hl : l.length ≤ 100000) (hi : ∀ i ∈ l, IW i) : check_Cells.f l = some (cellsV l) := if_pos ⟨hl, hi⟩
theorem iw_one (c : Int) (k : Int) (hc : 0 ≤ c ∧ c < 256) (hk : 0 ≤ k ∧ k < 4294967296) : IW ⟨c, 0, 0, k⟩ := ⟨WalkArith.wf_i64 (n := c) ⟨by omega, by omega⟩, show (Lit.int .i64 0).wf = true by decide, show (Lit.int .i64 0).wf = true by decide, hk⟩
theorem u3_of {l : List S28} (h : ∀ i ∈ l, IW i) : U3 l := fun i hi => (h i hi).2.2.2.1
theorem alive_f : doorwardlaw12_alive.f = some true := by
  unfold doorwardlaw12_alive.f
  rw [check_f _ (by decide) (fun i hi => by obtain rfl := List.mem_singleton.1 hi; exact iw_one 6 0 (by decide) (by decide)), check_f [] (by decide) (fun i hi => by cases hi)]
  have e1 : (checkV [(⟨6, 0, 0, 0⟩ : S28)]).2 = 0 := by decide +kernel
  have e2 : (checkV []).2 = 51 := rfl
  simp only [Option.bind_some, e1, e2, if_true]
  rfl
theorem few_f (l : List S28) : ∃ m, doorwardlaw12_few.f l = some (l.take m) ∧ (l.take m).length ≤ 4100 := by
  unfold doorwardlaw12_few.f
  have e1 : mn (l.length : Int) 4100 = ((min l.length 4100 : Nat) : Int) := by unfold mn; split <;> omega
  have key : ∃ m, (if 0 ≤ (mn (l.length : Int) 4100) then (if (mn (l.length : Int) 4100) ≤ (l.length : Int) then (some (l.take ((mn (l.length : Int) 4100) : Int).toNat)) else (none)) else (none)) = some (l.take m) ∧ (l.take m).length ≤ 4100 := by
    rw [e1, if_pos (by omega), if_pos (by omega)]
    exact ⟨_, rfl, by rw [List.length_take]; omega⟩
  by_cases h : (l.length : Int) > 60
  · rw [if_pos h]
    by_cases h2 : (l.length : Int) ≤ 4096
    · rw [if_pos h2, if_pos (by omega)]
      exact ⟨60, rfl, by rw [List.length_take]; omega⟩
    · rw [if_neg h2]; exact key
  · rw [if_neg h]; exact key
end Go.Proofs.Ytefkhcijgiagdaa.QCk
end
section
namespace Go.Proofs.Ytefkhcijgiagdaa.QIn
open Go.RowKit Go.Proofs.YtefkhcijgiagdaaW.PrintWords Go.Proofs.YtefkhcijgiagdaaW.PrintLast Go.Proofs.YtefkhcijgiagdaaW.PrintMore Go.Proofs.Ytefkhcijgiagdaa.Le Go.Proofs.Ytefkhcijgiagdaa.QLe Go.Proofs.Ytefkhcijgiagdaa.QNum Go.Proofs.Ytefkhcijgiagdaa.HKnown Go.Proofs.Ytefkhcijgiagdaa.HPut Go.Proofs.Ytefkhcijgiagdaa.I1
set_option linter.unusedVariables false
set_option linter.unusedSimpArgs false
theorem refKnown256 : ∀ c : Fin 256, doorwardref10_Known.f 1 (c.1 : Int) = some (knownB (c.1 : Int)) := by decide +kernel
theorem refKnown (c : Int) : ∀ k, 1 ≤ k → doorwardref10_Known.f k c = some (knownB c) := by
  intro k hk
  by_cases h : 0 ≤ c ∧ c < 256
  · have h2 := refKnown256 ⟨c.toNat, by omega⟩
    have e : ((c.toNat : Nat) : Int) = c := by omega
    rw [show ((⟨c.toNat, by omega⟩ : Fin 256).1 : Int) = c from e] at h2
    exact at_rounds (g := fun k => doorwardref10_Known.f k c) (doorwardref10_Known.mono c) hk h2
  · obtain ⟨k, rfl⟩ : ∃ m, k = m + 1 := ⟨k - 1, by omega⟩
    have hf : knownB c = false := by unfold knownB; rw [decide_eq_false h]; rfl
    unfold doorwardref10_Known.f
    rw [hf]
    by_cases h0 : c < 0
    · rw [if_pos h0]; simp [doorwardref10_Known.j0]
    · rw [if_neg h0, decide_eq_true (by omega)]; simp [doorwardref10_Known.j0]
end Go.Proofs.Ytefkhcijgiagdaa.QIn
end
