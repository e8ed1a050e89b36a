/- VmSums: operations by a number and by X do the same; adding and taking off undo one another. -/
import Derived.Test.YtefkhcijgiagdaaZVmSums0
section
namespace Go.Proofs.Ytefkhcijgiagdaa.Open
open Go.RowKit Go.Proofs.YtefkhcijgiagdaaW.PrintWords
set_option linter.unusedVariables false
set_option linter.unusedSimpArgs false
variable {α β : Type}
/-- A reading (of so much fuel at most) of cells at type t tells a value of kind d, of which Q. -/
def OpensN (P : Program) (fuel : Nat) (d : Kd α) (t : TypeId) (Q : α → Prop) : Prop :=
  P.cellsOf t = d.sz ∧ ∀ (H : Type) (enc : TypeId × Value → H) (W : World) (cs : List Value) (x : DataW H × List MemPlace),
    DataW.trod enc P W 0 (fun _ => true) true fuel t cs = some x → ∃ y, d.K W y cs ∧ Q y
def Opens (P : Program) (d : Kd α) (t : TypeId) (Q : α → Prop) : Prop := ∀ fuel, OpensN P fuel d t Q
section
variable {P : Program} {t e : TypeId} {d : Kd α} {Q : α → Prop} {fuel : Nat}
theorem OpensN.none (h : P.cellsOf t = d.sz) : OpensN P 0 d t Q := ⟨h, fun H enc W cs x hx => by simp [DataW.trod] at hx⟩
theorem one_cell {H : Type} {enc : TypeId × Value → H} {W : World} {cs : List Value} {x : DataW H × List MemPlace} {u : TypeDesc} (hu : P.underlying t = some u) (h1 : (match u with | .struct _ | .array _ _ => true | _ => false) = false)
    (hx : DataW.trod enc P W 0 (fun _ => true) true (fuel + 1) t cs = some x) : ∃ c, cs = [c] := by
  unfold DataW.trod at hx
  rcases cs with _ | ⟨c, _ | ⟨c2, r⟩⟩
  · cases u <;> simp [hu] at hx h1
  · exact ⟨c, rfl⟩
  · cases u <;> simp [hu] at hx h1
theorem Opens.int (k : IntKind) (hu : P.underlying t = some (.int k)) (hc : P.cellsOf t = 1) : Opens P (Kd.int k) t (fun x => (Lit.int k x).wf = true) := by
  intro fuel
  cases fuel with
  | zero => exact OpensN.none hc
  | succ fuel =>
    refine ⟨hc, fun H enc W cs x hx => ?_⟩
    obtain ⟨c, rfl⟩ := one_cell hu rfl hx
    unfold DataW.trod at hx
    cases c <;> simp [hu] at hx
    rename_i k' n
    obtain ⟨⟨rfl, hw⟩, _⟩ := hx
    exact ⟨n, rfl, hw⟩
theorem Opens.bool (hu : P.underlying t = some .bool) (hc : P.cellsOf t = 1) : Opens P Kd.bool t (fun _ => True) := by
  intro fuel
  cases fuel with
  | zero => exact OpensN.none hc
  | succ fuel =>
    refine ⟨hc, fun H enc W cs x hx => ?_⟩
    obtain ⟨c, rfl⟩ := one_cell hu rfl hx
    unfold DataW.trod at hx
    cases c <;> simp [hu] at hx
    rename_i b
    exact ⟨b, rfl, trivial⟩
theorem Opens.string (hu : P.underlying t = some .string) (hc : P.cellsOf t = 1) : Opens P Kd.string t (fun s => s.size ≤ maxLen) := by
  intro fuel
  cases fuel with
  | zero => exact OpensN.none hc
  | succ fuel =>
    refine ⟨hc, fun H enc W cs x hx => ?_⟩
    obtain ⟨c, rfl⟩ := one_cell hu rfl hx
    unfold DataW.trod at hx
    cases c <;> simp [hu] at hx
    rename_i s
    exact ⟨s, rfl, hx.1⟩
/-- The cells of a slice. -/
theorem slice_cell {H : Type} {enc : TypeId × Value → H} {W : World} {cs : List Value} {x : DataW H × List MemPlace} (hu : P.underlying t = some (.slice e)) (hx : DataW.trod enc P W 0 (fun _ => true) true (fuel + 1) t cs = some x) :
    cs = [.slice none 0 0] ∨ ∃ a len cap, cs = [.slice (some a) len cap] ∧ len ≤ cap ∧ cap ≤ maxLen ∧
      ∃ els rest, (List.range len).mapM (fun i => (W.cells? 0 (a.add (i * P.cellsOf e)) (P.cellsOf e)).bind (DataW.trod enc P W 0 (fun _ => true) true fuel e)) = some els ∧ x.1 = .slice (els.map (·.1)) rest := by
  obtain ⟨c, rfl⟩ := one_cell hu rfl hx
  unfold DataW.trod at hx
  cases c <;> try (simp [hu] at hx; done)
  rename_i A len cap
  cases A with
  | none =>
    by_cases h0 : len = 0 ∧ cap = 0
    · obtain ⟨rfl, rfl⟩ := h0
      exact .inl rfl
    · exfalso
      rcases len with _ | len <;> rcases cap with _ | cap <;> simp [hu] at hx h0
  | some a =>
    right
    simp only [hu] at hx
    split at hx
    · rename_i hcnd
      rw [Option.bind_eq_some_iff] at hx
      obtain ⟨els, hels, hx⟩ := hx
      rw [Option.map_eq_some_iff] at hx
      obtain ⟨rest, _, hx⟩ := hx
      exact ⟨a, len, cap, rfl, hcnd.2.1, hcnd.2.2, els, rest.map (·.1), hels, by rw [← hx]⟩
    · simp at hx
theorem OpensN.slice (hu : P.underlying t = some (.slice e)) (hc : P.cellsOf t = 1) (h : OpensN P fuel d e Q) : OpensN P (fuel + 1) (Kd.slice e d) t (fun xs => xs.length ≤ maxLen ∧ ∀ x ∈ xs, Q x) := by
  obtain ⟨hsz, h⟩ := h
  refine ⟨hc, fun H enc W cs x hx => ?_⟩
  rcases slice_cell hu hx with rfl | ⟨a, len, cap, rfl, hlc, hcm, els, rest, hels, _⟩
  · refine ⟨[], ⟨Option.none, 0, rfl, Nat.le_refl _, ?_⟩, by simp, by simp⟩
    exact ⟨rfl, by simp, fun h => absurd h (by simp)⟩
  · skip
    · skip
      have hlen : els.length = len := by simpa using mapM_some_length hels
      have hget := fun i (hi : i < len) => mapM_some_get hels i i (by simp [hi])
      have hall : ∀ i, i < len → ∃ (y : α) (c : List Value), d.K W y c ∧ Q y ∧ c.length = d.sz ∧ ∀ j u, c[j]? = some u → W.cell? (a.add (i * d.sz + j)) = some u := by
        intro i hi
        have hi2 := hget i hi
        rw [List.getElem?_eq_getElem (by omega : i < els.length), Option.bind_eq_some_iff] at hi2
        obtain ⟨c, hcs, hr⟩ := hi2
        obtain ⟨y, hy, hq⟩ := h H enc W c _ hr
        obtain ⟨_, hcl, hcell⟩ := World.cells?_some hcs
        refine ⟨y, c, hy, hq, d.K_len hy, fun j u hj => ?_⟩
        have hjl : j < P.cellsOf e := by
          have : j < c.length := by
            rcases Nat.lt_or_ge j c.length with hlt | hge
            · exact hlt
            · rw [List.getElem?_eq_none hge] at hj; simp at hj
          omega
        have := hcell j hjl
        rw [hj, hsz, Addr.add_add] at this
        exact this
      obtain ⟨ys, hys⟩ : ∃ ys : List α, ys.length = len ∧ ∀ i (hi : i < ys.length), (∃ c : List Value, d.K W ys[i] c ∧ Q ys[i] ∧ c.length = d.sz ∧ ∀ j u, c[j]? = some u → W.cell? (a.add (i * d.sz + j)) = some u) := by
        clear hels hget hlen hlc hcm hx
        induction len with
        | zero => exact ⟨[], rfl, fun i hi => absurd hi (by simp)⟩
        | succ n ih =>
          obtain ⟨ys, hl, hy⟩ := ih (fun i hi => hall i (by omega))
          obtain ⟨y, c, hk, hq, hcl, hcc⟩ := hall n (by omega)
          refine ⟨ys ++ [y], by simp [hl], fun i hi => ?_⟩
          by_cases hin : i < ys.length
          · have := hy i hin
            rw [List.getElem_append_left hin]
            exact this
          · have hie : i = n := by simp at hi; omega
            subst hie
            rw [List.getElem_append_right (by omega)]
            simp only [hl, Nat.sub_self, List.getElem_cons_zero]
            exact ⟨c, hk, hq, hcl, hcc⟩
      obtain ⟨hyl, hy⟩ := hys
      refine ⟨ys, ⟨some a, cap, by rw [hyl], by omega, ?_⟩, by omega, ?_⟩
      · refine ⟨rfl, by rw [hyl]; exact Nat.le_trans hlc hcm, fun _ => ⟨a, rfl, fun j p hj => ?_⟩⟩
        have hjl : j < ys.length := by
          rcases Nat.lt_or_ge j ys.length with hlt | hge
          · exact hlt
          · rw [List.getElem?_eq_none hge] at hj; simp at hj
        obtain ⟨c, hk, hq, hcl, hcc⟩ := hy j hjl
        rw [List.getElem?_eq_getElem hjl] at hj
        obtain rfl := Option.some.inj hj
        exact ⟨c, hcl, hk, hcc⟩
      · intro x hx
        obtain ⟨i, hi, rfl⟩ := List.getElem_of_mem hx
        obtain ⟨c, hk, hq, _⟩ := hy i hi
        exact hq
theorem Opens.slice (hu : P.underlying t = some (.slice e)) (hc : P.cellsOf t = 1) (h : Opens P d e Q) : Opens P (Kd.slice e d) t (fun xs => xs.length ≤ maxLen ∧ ∀ x ∈ xs, Q x) := by
  intro fuel
  cases fuel with
  | zero => exact OpensN.none hc
  | succ fuel => exact OpensN.slice hu hc (h fuel)
end
/-- The fields from one on, read one by one, tell a value of kind d out of the cells from o on. -/
def OpensF (P : Program) (fuel : Nat) (fs : List Field) (o : Nat) (d : Kd α) (Q : α → Prop) : Prop :=
  ∀ (H : Type) (enc : TypeId × Value → H) (W : World) (cs : List Value) (xs : List (DataW H × List MemPlace)),
    (fs.mapM fun f => DataW.trod enc P W 0 (fun _ => true) true fuel f.type ((cs.drop f.offset).take (P.cellsOf f.type))) = some xs → cs.length = o + d.sz → ∃ y, d.K W y (cs.drop o) ∧ Q y
section
variable {P : Program} {t : TypeId} {a : Kd α} {b : Kd β} {Q : α → Prop} {R : β → Prop} {fuel o : Nat} {f : Field} {fs : List Field}
theorem OpensF.cons (ho : f.offset = o) (h : OpensN P fuel a f.type Q) (hs : OpensF P fuel fs (o + a.sz) b R) : OpensF P fuel (f :: fs) o (Kd.pair a b) (fun x => Q x.1 ∧ R x.2) := by
  intro H enc W cs xs hx hl
  simp only [List.mapM_cons] at hx
  rw [Option.bind_eq_bind, Option.bind_eq_some_iff] at hx
  obtain ⟨y, hy, hx⟩ := hx
  rw [Option.bind_eq_bind, Option.bind_eq_some_iff] at hx
  obtain ⟨ys, hys, _⟩ := hx
  rw [ho, h.1] at hy
  obtain ⟨u, hu, hq⟩ := h.2 H enc W _ _ hy
  obtain ⟨v, hv, hr⟩ := hs H enc W cs ys hys (by have : (Kd.pair a b).sz = a.sz + b.sz := rfl; omega)
  refine ⟨(u, v), ⟨(cs.drop o).take a.sz, (cs.drop o).drop a.sz, (List.take_append_drop _ _).symm, hu, ?_⟩, hq, hr⟩
  rw [List.drop_drop]
  exact hv
theorem OpensF.iso {γ : Type} (g : γ → α) (inv : α → γ) (hg : ∀ x, g (inv x) = x) (h : OpensF P fuel fs o a Q) : OpensF P fuel fs o (Kd.iso a g) (fun x => Q (g x)) := by
  intro H enc W cs xs hx hl
  obtain ⟨y, hy, hq⟩ := h H enc W cs xs hx hl
  exact ⟨inv y, by show a.K W (g (inv y)) _; rw [hg]; exact hy, by show Q (g (inv y)); rw [hg]; exact hq⟩
theorem OpensN.struct {gs : Array Field} (hu : P.underlying t = some (.struct gs)) (hc : P.cellsOf t = a.sz) (h : OpensF P fuel gs.toList 0 a Q) : OpensN P (fuel + 1) a t Q := by
  refine ⟨hc, fun H enc W cs x hx => ?_⟩
  have hx2 : (if cs.length = P.cellsOf t then (gs.toList.mapM fun f => DataW.trod enc P W 0 (fun _ => true) true fuel f.type ((cs.drop f.offset).take (P.cellsOf f.type))).map fun xs => (DataW.agg (xs.map (·.1)), xs.flatMap (·.2)) else Option.none) = some x := by
    rw [← hx]
    conv => rhs; unfold DataW.trod
    simp only [hu]
  split at hx2
  · rename_i hl
    rw [Option.map_eq_some_iff] at hx2
    obtain ⟨xs, hxs, _⟩ := hx2
    have := h H enc W cs xs hxs (by omega)
    simpa using this
  · simp at hx2
/-- The places of an array, read one by one. -/
def OpensA (P : Program) (fuel : Nat) (e : TypeId) (is : List Nat) (o : Nat) (d : Kd α) (Q : α → Prop) : Prop :=
  ∀ (H : Type) (enc : TypeId × Value → H) (W : World) (cs : List Value) (xs : List (DataW H × List MemPlace)),
    (is.mapM fun i => DataW.trod enc P W 0 (fun _ => true) true fuel e ((cs.drop (i * P.cellsOf e)).take (P.cellsOf e))) = some xs → cs.length = o + d.sz → ∃ y, d.K W y (cs.drop o) ∧ Q y
theorem OpensA.cons {e : TypeId} {i : Nat} {is : List Nat} (ho : i * P.cellsOf e = o) (h : OpensN P fuel a e Q) (hs : OpensA P fuel e is (o + a.sz) b R) : OpensA P fuel e (i :: is) o (Kd.pair a b) (fun x => Q x.1 ∧ R x.2) := by
  intro H enc W cs xs hx hl
  simp only [List.mapM_cons] at hx
  rw [Option.bind_eq_bind, Option.bind_eq_some_iff] at hx
  obtain ⟨y, hy, hx⟩ := hx
  rw [Option.bind_eq_bind, Option.bind_eq_some_iff] at hx
  obtain ⟨ys, hys, _⟩ := hx
  rw [ho, h.1] at hy
  obtain ⟨u, hu, hq⟩ := h.2 H enc W _ _ hy
  obtain ⟨v, hv, hr⟩ := hs H enc W cs ys hys (by have : (Kd.pair a b).sz = a.sz + b.sz := rfl; omega)
  refine ⟨(u, v), ⟨(cs.drop o).take a.sz, (cs.drop o).drop a.sz, (List.take_append_drop _ _).symm, hu, ?_⟩, hq, hr⟩
  rw [List.drop_drop]
  exact hv
theorem OpensA.iso {γ : Type} {e : TypeId} {is : List Nat} (g : γ → α) (inv : α → γ) (hg : ∀ x, g (inv x) = x) (h : OpensA P fuel e is o a Q) : OpensA P fuel e is o (Kd.iso a g) (fun x => Q (g x)) := by
  intro H enc W cs xs hx hl
  obtain ⟨y, hy, hq⟩ := h H enc W cs xs hx hl
  exact ⟨inv y, by show a.K W (g (inv y)) _; rw [hg]; exact hy, by show Q (g (inv y)); rw [hg]; exact hq⟩
theorem OpensN.array {n : Nat} {e : TypeId} (hu : P.underlying t = some (.array n e)) (hc : P.cellsOf t = a.sz) (h : OpensA P fuel e (List.range n) 0 a Q) : OpensN P (fuel + 1) a t Q := by
  refine ⟨hc, fun H enc W cs x hx => ?_⟩
  have hx2 : (if cs.length = P.cellsOf t then ((List.range n).mapM fun i => DataW.trod enc P W 0 (fun _ => true) true fuel e ((cs.drop (i * P.cellsOf e)).take (P.cellsOf e))).map fun xs => (DataW.agg (xs.map (·.1)), xs.flatMap (·.2)) else Option.none) = some x := by
    rw [← hx]
    conv => rhs; unfold DataW.trod
    simp only [hu]
  split at hx2
  · rename_i hl
    rw [Option.map_eq_some_iff] at hx2
    obtain ⟨xs, hxs, _⟩ := hx2
    have := h H enc W cs xs hxs (by omega)
    simpa using this
  · simp at hx2
end
section
variable {P : Program} {t e : TypeId} {d : Kd α} {Q : α → Prop} {H : Type} {enc : TypeId × Value → H} {W : World} {D : DataW H} {p : List MemPlace} {v : Value}
end
end Go.Proofs.Ytefkhcijgiagdaa.Open
end
section
namespace Go.Proofs.Ytefkhcijgiagdaa.StatVmSums
open Go.RowKit Go.Proofs.YtefkhcijgiagdaaW.PrintWords Go.Proofs.Ytefkhcijgiagdaa.Open Go.Proofs.Ytefkhcijgiagdaa.PVmSums Go.Proofs.Ytefkhcijgiagdaa.Le Go.Proofs.Ytefkhcijgiagdaa.HKnown Go.Proofs.Ytefkhcijgiagdaa.I1 Go.Proofs.Ytefkhcijgiagdaa.E1 Go.Proofs.Ytefkhcijgiagdaa.HAsm Go.Proofs.Ytefkhcijgiagdaa.E2 Go.Proofs.Ytefkhcijgiagdaa.V0 Go.Proofs.Ytefkhcijgiagdaa.HVm
set_option maxRecDepth 100000
def Q3 (x : Int) : Prop := (Lit.int .i64 x).wf = true
def Q24 (x : Int) : Prop := (Lit.int .u32 x).wf = true
def Stat : Prop := ∀ (a0 : Int) (a1 : Int) (a2 : Int) (a3 : ByteArray), Q3 a0 → Q24 a1 → Q24 a2 → a3.size ≤ 140737488351232 → ∃ k, doorwardlaw11_VmSums.f k a0 a1 a2 a3 = some true
end Go.Proofs.Ytefkhcijgiagdaa.StatVmSums
end
section
namespace Go.Proofs.Ytefkhcijgiagdaa.QRun
open Go.RowKit Go.Proofs.YtefkhcijgiagdaaW.PrintWords Go.Proofs.YtefkhcijgiagdaaW.PrintLast Go.Proofs.YtefkhcijgiagdaaW.PrintMore Go.Proofs.Ytefkhcijgiagdaa.HKnown Go.Proofs.Ytefkhcijgiagdaa.I1 Go.Proofs.Ytefkhcijgiagdaa.V0 Go.Proofs.Ytefkhcijgiagdaa.QVm Go.Proofs.Ytefkhcijgiagdaa.QLe Go.Proofs.Ytefkhcijgiagdaa.QNum Go.Proofs.Ytefkhcijgiagdaa.HVm Go.Proofs.Ytefkhcijgiagdaa.QWalk
set_option linter.unusedVariables false
set_option linter.unusedSimpArgs false
theorem run_f (l : List S28) (rec : ByteArray) (hl : l.length ≤ 100000) (hi : ∀ i ∈ l, I28 i) : vm_Run.f l rec = some (runB l rec) := if_pos ⟨hl, hi⟩
theorem runB_ok (l : List S28) (rec : ByteArray) (hz : rec.size = 64) (o : Int) (k : Nat) (h : vr (wdS rec) l 0 v0 0 = some (o, k)) : runB l rec = (o, (k : Int), 0) := by
  unfold runB; rw [if_pos hz, h]
theorem vr_next (wd : Int → Option Int) (i : S28) (l : List S28) (v v' : V) (n s : Nat) (h : vm1 wd i v = .next v' s) : vr wd (i :: l) 0 v n = vr wd l s v' (n + 1) := by simp only [vr, h]
theorem vr_done (wd : Int → Option Int) (i : S28) (l : List S28) (v : V) (n : Nat) (o : Int) (h : vm1 wd i v = .done o) : vr wd (i :: l) 0 v n = some (o, n + 1) := by simp only [vr, h]
section
variable (wd : Int → Option Int) (v : V)
theorem m_retk (k : Int) : vm1 wd ⟨6, 0, 0, k⟩ v = .done k := by unfold vm1; rw [if_neg (show ¬ knownB 6 = false by decide), if_pos rfl]
theorem m_reta : vm1 wd ⟨22, 0, 0, 0⟩ v = .done v.a := by unfold vm1; rw [if_neg (by decide), if_neg (by decide), if_pos rfl]
theorem m_ldi (k : Int) : vm1 wd ⟨0, 0, 0, k⟩ v = .next ⟨k, v.x, v.cs⟩ 0 := vm1_mem wd ⟨0, 0, 0, k⟩ v rfl (by simp) (by simp) (by simp) (by simp)
theorem m_lxi (k : Int) : vm1 wd ⟨1, 0, 0, k⟩ v = .next ⟨v.a, k, v.cs⟩ 0 := vm1_mem wd ⟨1, 0, 0, k⟩ v rfl (by simp) (by simp) (by simp) (by simp)
/-- An operation by a number. -/
theorem m_k (c n : Int) (hk : knownB c = true) (h4 : c % 8 = 4) (h8 : c / 8 % 2 = 0) (h22 : c ≠ 22) : vm1 wd ⟨c, 0, 0, n⟩ v = sumR (sumV c n v.a) v := by
  rw [vm1_sum wd ⟨c, 0, 0, n⟩ v hk (by simp only; omega) h22 h4, byX_f _ h8]
  rfl
/-- An operation by X. -/
theorem m_x (c : Int) (hk : knownB (c + 8) = true) (h4 : c % 8 = 4) (h8 : c / 8 % 2 = 0) (h22 : c + 8 ≠ 22) : vm1 wd ⟨c + 8, 0, 0, 0⟩ v = sumR (sumV c v.x v.a) v := by
  rw [vm1_sum wd ⟨c + 8, 0, 0, 0⟩ v hk (by simp only; omega) h22 (by simp only; omega), byX_t _ (.inl (by simp only; omega)) (by simp only; omega)]
  simp only [if_true, show c + 8 - 8 = c by omega]
end
theorem alive_run : runB [⟨6, 0, 0, 7⟩] (strOfNums (List.replicate 64 0)) = (7, 1, 0) :=
  runB_ok _ _ (by rw [sON_size]; rfl) 7 1 (vr_done _ _ _ _ _ _ (m_retk _ _ _))
theorem record_f (s : ByteArray) : ∃ t, doorwardlaw11_record.f s = some t := by
  unfold doorwardlaw11_record.f
  by_cases h : (s.size : Int) > 64
  · rw [if_pos h, if_pos (by decide), if_pos (by omega)]; exact ⟨_, rfl⟩
  · rw [if_neg h]; exact ⟨_, rfl⟩
end Go.Proofs.Ytefkhcijgiagdaa.QRun
end
section
namespace Go.Proofs.Ytefkhcijgiagdaa.Pure
open Go.RowKit Go.Proofs.Ytefkhcijgiagdaa.HKnown Go.Proofs.Ytefkhcijgiagdaa.StatVmSums Go.Proofs.YtefkhcijgiagdaaW.PrintWords Go.Proofs.YtefkhcijgiagdaaW.PrintLast Go.Proofs.YtefkhcijgiagdaaW.PrintMore Go.Proofs.Ytefkhcijgiagdaa.PVmSums Go.Proofs.Ytefkhcijgiagdaa.I1 Go.Proofs.Ytefkhcijgiagdaa.V0 Go.Proofs.Ytefkhcijgiagdaa.QVm Go.Proofs.Ytefkhcijgiagdaa.QNum Go.Proofs.Ytefkhcijgiagdaa.HVm Go.Proofs.Ytefkhcijgiagdaa.QWalk Go.Proofs.Ytefkhcijgiagdaa.QRun
set_option linter.unusedVariables false
set_option linter.unusedSimpArgs false
theorem alive_f : doorwardlaw11_alive.f = some true := by
  unfold doorwardlaw11_alive.f
  rw [if_pos (by decide), run_f _ _ (by decide) (fun i hi => by obtain rfl := List.mem_singleton.1 hi; exact ⟨by decide, by decide, by decide, by decide⟩), alive_run]
  simp
theorem i_k (c k : Int) (h : U k) : I28 ⟨c, 0, 0, k⟩ := ⟨show (0 : Int) ≤ 9223372036854775807 by decide, show (0 : Int) ≤ 9223372036854775807 by decide, h⟩
/-- What a code may be. -/
structure Cd (c : Int) : Prop where
  hk : knownB c = true
  h4 : c % 8 = 4
  h8 : c / 8 % 2 = 0
  hx : knownB (c + 8) = true
  ho : Go.bits .or .i64 c 8 = c + 8
theorem cd4 : Cd 4 := ⟨by decide, by decide, by decide, by decide, by decide +kernel⟩
theorem cd_all : ∀ c : Fin 256, knownB (c.val : Int) = true → (c.val : Int) % 8 = 4 → (c.val : Int) / 8 % 2 = 0 → (c.val : Int) ≠ 132 → knownB ((c.val : Int) + 8) = true ∧ Go.bits .or .i64 (c.val : Int) 8 = (c.val : Int) + 8 := by decide +kernel
theorem cd_ok (c : Int) (hk : knownB c = true) (h4 : c % 8 = 4) (h8 : c / 8 % 2 = 0) (h : c ≠ 132) : Cd c := by
  have hr := hk
  unfold knownB at hr
  rw [Bool.and_eq_true, decide_eq_true_eq] at hr
  obtain ⟨n, rfl⟩ : ∃ n : Nat, c = n := ⟨c.toNat, by omega⟩
  obtain ⟨h1, h2⟩ := cd_all ⟨n, by omega⟩ hk h4 h8 h
  exact ⟨hk, h4, h8, h1, h2⟩
theorem run_one (wd : Int → Option Int) (c a n : Int) (h : Cd c) : vr wd [⟨0, 0, 0, a⟩, ⟨c, 0, 0, n⟩, ⟨22, 0, 0, 0⟩] 0 v0 0 = (match sumV c n a with | none => some (0, 2) | some r => some (r, 3)) := by
  rw [vr_next _ _ _ _ _ _ _ (m_ldi _ _ _)]
  have e := m_k wd ⟨a, v0.x, v0.cs⟩ c n h.hk h.h4 h.h8 (fun g => by have := h.h4; omega)
  simp only at e
  cases hs : sumV c n a with
  | none =>
    rw [hs] at e
    rw [vr_done _ _ _ _ _ _ e]
  | some r =>
    rw [hs] at e
    rw [vr_next _ _ _ _ _ _ _ e, vr_done _ _ _ _ _ _ (m_reta _ _)]
theorem run_two (wd : Int → Option Int) (c a n : Int) (h : Cd c) : vr wd [⟨0, 0, 0, a⟩, ⟨1, 0, 0, n⟩, ⟨c + 8, 0, 0, 0⟩, ⟨22, 0, 0, 0⟩] 0 v0 0 = (match sumV c n a with | none => some (0, 3) | some r => some (r, 4)) := by
  rw [vr_next _ _ _ _ _ _ _ (m_ldi _ _ _), vr_next _ _ _ _ _ _ _ (m_lxi _ _ _)]
  have e := m_x wd ⟨a, n, v0.cs⟩ c h.hx h.h4 h.h8 (fun g => by have := h.h4; omega)
  simp only at e
  cases hs : sumV c n a with
  | none =>
    rw [hs] at e
    rw [vr_done _ _ _ _ _ _ e]
  | some r =>
    rw [hs] at e
    rw [vr_next _ _ _ _ _ _ _ e, vr_done _ _ _ _ _ _ (m_reta _ _)]
theorem neg_k (wd : Int → Option Int) (v : V) : vm1 wd ⟨132, 0, 0, 0⟩ v = .next ⟨(-v.a) % 4294967296, v.x, v.cs⟩ 0 := by
  rw [m_k wd v 132 0 (by decide) (by decide) (by decide) (by decide)]
  rfl
theorem run_back (wd : Int → Option Int) (a n : Int) (ha : U a) : vr wd [⟨0, 0, 0, a⟩, ⟨4, 0, 0, n⟩, ⟨20, 0, 0, n⟩, ⟨132, 0, 0, 0⟩, ⟨132, 0, 0, 0⟩, ⟨22, 0, 0, 0⟩] 0 v0 0 = some (a, 6) := by
  have e1 : ∀ v : V, vm1 wd ⟨4, 0, 0, n⟩ v = .next ⟨(v.a + n) % 4294967296, v.x, v.cs⟩ 0 := fun v => by
    rw [m_k wd v 4 n (by decide) (by decide) (by decide) (by decide)]; rfl
  have e2 : ∀ v : V, vm1 wd ⟨20, 0, 0, n⟩ v = .next ⟨(v.a - n) % 4294967296, v.x, v.cs⟩ 0 := fun v => by
    rw [m_k wd v 20 n (by decide) (by decide) (by decide) (by decide)]; rfl
  rw [vr_next _ _ _ _ _ _ _ (m_ldi _ _ _), vr_next _ _ _ _ _ _ _ (e1 _), vr_next _ _ _ _ _ _ _ (e2 _), vr_next _ _ _ _ _ _ _ (neg_k _ _), vr_next _ _ _ _ _ _ _ (neg_k _ _), vr_done _ _ _ _ _ _ (m_reta _ _)]
  have : 0 ≤ a ∧ a < 4294967296 := ha
  simp only
  congr 2
  omega
theorem j1_ok (c a n : Int) (t : ByteArray) (hz : t.size = 64) (h : Cd c) (ha : U a) (hn : U n) (k : Nat) : doorwardlaw11_VmSums.j1 (k + 1) c a n t = some true := by
  have u0 : U 0 := ⟨by decide, by decide⟩
  simp only [doorwardlaw11_VmSums.j1]
  rw [h.ho, alive_f]
  rw [run_f _ _ (by simp) (fun i hi => by simp only [List.mem_cons, List.not_mem_nil, or_false] at hi; rcases hi with rfl | rfl | rfl <;> first | exact i_k _ _ ha | exact i_k _ _ hn | exact i_k _ _ u0)]
  rw [run_f _ _ (by simp) (fun i hi => by simp only [List.mem_cons, List.not_mem_nil, or_false] at hi; rcases hi with rfl | rfl | rfl | rfl <;> first | exact i_k _ _ ha | exact i_k _ _ hn | exact i_k _ _ u0)]
  rw [run_f _ _ (by simp) (fun i hi => by simp only [List.mem_cons, List.not_mem_nil, or_false] at hi; rcases hi with rfl | rfl | rfl | rfl | rfl | rfl <;> first | exact i_k _ _ ha | exact i_k _ _ hn | exact i_k _ _ u0)]
  have r1 := run_one (wdS t) c a n h
  have r2 := run_two (wdS t) c a n h
  rw [runB_ok _ t hz _ _ (run_back _ a n ha)]
  cases hs : sumV c n a with
  | none =>
    rw [hs] at r1 r2
    rw [runB_ok _ t hz _ _ r1, runB_ok _ t hz _ _ r2]
    simp
  | some r =>
    rw [hs] at r1 r2
    rw [runB_ok _ t hz _ _ r1, runB_ok _ t hz _ _ r2]
    simp
theorem wrap_i64 (m : Nat) (h : m < 18446744073709551616) (h0 : 0 ≤ IntKind.i64.wrap (m : Int)) : IntKind.i64.wrap (m : Int) = m := by
  simp [IntKind.wrap, IntKind.bits, IntKind.signed] at h0 ⊢
  omega
theorem bit3 (y : Int) (hk : knownB (Go.bits .andNot .i64 y 8) = true) : Go.bits .andNot .i64 y 8 / 8 % 2 = 0 := by
  have hr := hk
  unfold knownB at hr
  rw [Bool.and_eq_true, decide_eq_true_eq] at hr
  have h0 := hr.1.1
  clear hr hk
  unfold Go.bits at h0 ⊢
  simp only at h0 ⊢
  generalize BitVec.ofInt IntKind.i64.bits y = A at h0 ⊢
  have hb : (A &&& ~~~BitVec.ofInt IntKind.i64.bits 8).getLsbD 3 = false := by
    rw [BitVec.getLsbD_and, BitVec.getLsbD_not]
    have : (BitVec.ofInt IntKind.i64.bits 8).getLsbD 3 = true := by decide
    rw [this]; simp
  have hlt : (A &&& ~~~BitVec.ofInt IntKind.i64.bits 8).toNat < 18446744073709551616 := (A &&& ~~~BitVec.ofInt IntKind.i64.bits 8).isLt
  unfold BitVec.getLsbD at hb
  generalize (A &&& ~~~BitVec.ofInt IntKind.i64.bits 8).toNat = m at *
  rw [wrap_i64 m (by omega) h0]
  rw [Nat.testBit_eq_decide_div_mod_eq] at hb
  have := of_decide_eq_false hb
  omega
theorem VmSums : StatVmSums.Stat := by
  intro code a n s _ ha hn _
  obtain ⟨t, ht⟩ := record_f s
  have ha := wf_u32 ha
  have hn := wf_u32 hn
  refine ⟨2, ?_⟩
  unfold doorwardlaw11_VmSums.f
  rw [ht, alive_f]
  simp only [Option.bind_some]
  by_cases hz : t.size = 64
  · rw [if_pos (show (t.size : Int) = 64 by omega)]
    rw [show insn_Known.f (Go.bits .andNot .i64 (Go.bits .and .i64 code 244) 8) = some (knownB (Go.bits .andNot .i64 (Go.bits .and .i64 code 244) 8)) from rfl]
    simp only [Option.bind_some]
    generalize Go.bits .and .i64 code 244 = y
    have h3 := bit3 y
    generalize Go.bits .andNot .i64 y 8 = c at *
    by_cases hk : knownB c = true
    · rw [if_pos hk]
      obtain ⟨b7, b8, _⟩ := bits_known c hk
      by_cases h4 : Go.bits .and .i64 c 7 = 4
      · rw [if_pos h4]
        simp only [doorwardlaw11_VmSums.j0]
        by_cases h132 : c = 132
        · rw [if_pos (by simp [h132])]
          exact j1_ok 4 a n t hz cd4 ha hn 0
        · rw [if_neg (by simpa using h132)]
          exact j1_ok c a n t hz (cd_ok c hk (by rw [← b7]; exact h4) (h3 hk) h132) ha hn 0
      · rw [if_neg h4]
        simp only [doorwardlaw11_VmSums.j0, if_true]
        exact j1_ok 4 a n t hz cd4 ha hn 0
    · rw [if_neg hk]
      simp only [doorwardlaw11_VmSums.j0, if_true]
      exact j1_ok 4 a n t hz cd4 ha hn 0
  · rw [if_neg (show ¬ (t.size : Int) = 64 by omega)]
end Go.Proofs.Ytefkhcijgiagdaa.Pure
end
section
namespace Go.Proofs.Ytefkhcijgiagdaa.vmSums
open Go.ChangeShapes Go.WideShapes Go.ChangeAt Go.RowKit Go.Proofs.Ytefkhcijgiagdaa.Open Go.Proofs.Ytefkhcijgiagdaa.StatVmSums Go.Proofs.YtefkhcijgiagdaaW.PrintWords Go.Proofs.Ytefkhcijgiagdaa.PVmSums Go.Proofs.Ytefkhcijgiagdaa.Le Go.Proofs.Ytefkhcijgiagdaa.HKnown Go.Proofs.Ytefkhcijgiagdaa.I1 Go.Proofs.Ytefkhcijgiagdaa.E1 Go.Proofs.Ytefkhcijgiagdaa.HAsm Go.Proofs.Ytefkhcijgiagdaa.E2 Go.Proofs.Ytefkhcijgiagdaa.V0 Go.Proofs.Ytefkhcijgiagdaa.HVm
open Go.ChangeMaps (open_string shut_string)
set_option linter.unusedVariables false
open Go.Proofs.Ytefkhcijgiagdaa.Order (own laidOut)
open Go.Proofs.Ytefkhcijgiagdaa
set_option maxRecDepth 100000 in
set_option maxHeartbeats 1000000 in
theorem lifted (os : Os) (started : os.Started) (H : Type) (enc : TypeId × Value → H) :
    ReturnsInHanded {} Try.checked os 26 .any (Rows.vmSumsSpec.pre6 enc Try.prog Try.f26 Rows.vmSumsRow.domain false) (Rows.vmSumsSpec.post enc Try.prog Try.f26 false true false false) := by
  refine returnsInHanded_of_change_sized (C := Try.checked) own started (by kernel_rfl) Try.func26
    (ChangeSpec.witness6 (enc := enc) (C := Try.checked) false ⟨#[], #[.int .i64 0, .int .u32 0, .int .u32 0, .string ByteArray.empty], []⟩ 20 (by kernel_rfl) (by kernel_rfl) (by kernel_rfl) (by kernel_rfl)) ?_
  intro W base args ds gs before hval0 hW hcnd hsz0 _
  have hsz : (DataW.weightsEach Try.prog (Try.f26.params.toList ++ Rows.vmSumsSpec.plain.varTypes Try.prog) (ds ++ gs)).all (· ≤ reachBytes) = true := hsz0
  have hval : ∀ (j : Nat) t v, Try.f26.params[j]? = some t → args[j]? = some v → Value.okWide Try.prog W .any base t v := hval0
  have hW' := hW
  obtain ⟨p, q, hA0, hV, rfl, hfz, hnd⟩ := hW
  have hA : DataW.TrodAll enc Try.prog W 0 (fun _ => true) true Try.f26.params.toList args.toList ds p := hA0
  rw [Try.params26] at hA hval hsz
  obtain ⟨v0, vs0, d0, ds0, p0, q0, hargs, rfl, rfl, h0, r0⟩ := trodAll_cons hA
  obtain ⟨v1, vs1, d1, ds1, p1, q1, rfl, rfl, rfl, h1, r1⟩ := trodAll_cons r0
  obtain ⟨v2, vs2, d2, ds2, p2, q2, rfl, rfl, rfl, h2, r2⟩ := trodAll_cons r1
  obtain ⟨v3, vs3, d3, ds3, p3, q3, rfl, rfl, rfl, h3, r3⟩ := trodAll_cons r2
  obtain ⟨rfl, rfl, rfl⟩ := trodAll_nil r3
  obtain rfl : args = #[v0, v1, v2, v3] := by cases args; simp_all
  obtain ⟨rfl, rfl⟩ := trodVars_none hV
  obtain ⟨x0, rfl, rfl, rfl, w0⟩ := open_int Try.underlying3 (hval 0 3 v0 rfl rfl) h0
  obtain ⟨x1, rfl, rfl, rfl, w1⟩ := open_int Try.underlying24 (hval 1 24 v1 rfl rfl) h1
  obtain ⟨x2, rfl, rfl, rfl, w2⟩ := open_int Try.underlying24 (hval 2 24 v2 rfl rfl) h2
  obtain ⟨x3, rfl, rfl, rfl, y3⟩ := open_string Try.underlying9 (hval 3 9 v3 rfl rfl) h3
  have w3 : x3.size ≤ 140737488351232 := by
    have z := sized_string hsz (j := 3) (t := 9) rfl rfl
    rw [Array.length_toList] at z
    exact z
  clear hA0 hval0 hsz0 hsz
  obtain ⟨k, hk⟩ := Pure.VmSums x0 x1 x2 x3 w0 w1 w2 w3
  refine (doorwardlaw11_VmSums.calls (k := k) (r := true) (w := W) (h := hk)).mono ?_
  rintro e W' ⟨rfl, bel0⟩
  have bel := bel0
  exact ⟨_, rfl, _, _, _, [], _, [], hW', trodAll_mk1 (shut_bool Try.underlying4 _), (trodAll_cons_mk (shut_int Try.underlying3 w0) (trodAll_cons_mk (shut_int Try.underlying24 w1) (trodAll_cons_mk (shut_int Try.underlying24 w2) (trodAll_cons_mk (shut_string Try.underlying9 y3) trodAll_mk0)))), rfl, bel.frame _, fun h => by cases h⟩
set_option maxHeartbeats 4000000 in
theorem facts : joinedFacts Try.prog 26 Try.f26 Rows.vmSumsSpec Rows.vmSumsRow = true := by
  unfold joinedFacts
  repeat' (with_reducible refine (Bool.and_eq_true_iff).mpr ⟨?_, ?_⟩)
  all_goals first | (with_reducible exact Order.laidOut) | (with_reducible exact Order.mapsRowed) | (with_reducible exact Order.noStops) | (with_reducible exact Order.noKnobs) | (with_reducible exact Order.enter) | (with_reducible exact Order.heard) | (rw [Order.makes]; rfl) | (rw [Order.lifts]; rfl) | (as_aux_lemma => kernel_rfl)
theorem named : Try.prog.funcNamed "doorward/doorwardlaw11.VmSums" = some 26 := by kernel_rfl
theorem inst : Try.f26.isInstance Try.prog Rows.vmSumsRow.origin Rows.vmSumsRow.targs := of_decide_eq_true (by kernel_rfl)
theorem wrap : Try.f26.isWrapper Try.prog Rows.vmSumsRow.wrapper Rows.vmSumsRow.mainSum := by unfold Func.isWrapper; first | (rw [if_pos (by decide +kernel)]; kernel_rfl) | (rw [if_neg (by decide +kernel)]; exact ⟨rfl, rfl⟩)
theorem over : Rows.vmSumsRow.holds Try.pinned (OpenSpec.ofChange Rows.vmSumsSpec) :=
  OpenClaim.holds_of_wide 26 Try.f26 rfl rfl rfl rfl rfl rfl rfl ⟨rfl, rfl, rfl, rfl, rfl⟩ rfl rfl rfl rfl rfl named Try.func26 facts inst wrap
    (fun os started H enc _ => lifted os started H enc)
theorem proved : Rows.VmSumsSaid := over
#print axioms proved
end Go.Proofs.Ytefkhcijgiagdaa.vmSums
namespace Go.Proofs.Ytefkhcijgiagdaa
/-- The row, under a short name, for the claim. -/
theorem vmSums_holds : Rows.VmSumsSaid := vmSums.proved
end Go.Proofs.Ytefkhcijgiagdaa
end
