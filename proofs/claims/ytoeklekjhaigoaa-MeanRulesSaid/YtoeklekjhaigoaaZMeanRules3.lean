/- MeanRules: a rule more behind all others changes no answer of a call that one of them matches; what is answered is the default, that of another architecture, or a rule's action. -/
import Derived.Test.YtoeklekjhaigoaaZMeanRules2
section
namespace Go.Proofs.Ytoeklekjhaigoaa.Open
open Go.Proofs.Ytoeklekjhaigoaa.Al Go.RowKit Go.Proofs.YtoeklekjhaigoaaW.PrintWords
set_option linter.unusedVariables false
set_option linter.unusedSimpArgs false
variable {α β : Type}
/-- A reading (of so much fuel at most) of cells at type t tells a value of kind d, of which Q. -/
def OpensN (P : Program) (fuel : Nat) (d : Kd α) (t : TypeId) (Q : α → Prop) : Prop :=
  P.cellsOf t = d.sz ∧ ∀ (H : Type) (enc : TypeId × Value → H) (W : World) (cs : List Value) (x : DataW H × List MemPlace),
    DataW.trod enc P W 0 (fun _ => true) true fuel t cs = some x → ∃ y, d.K W y cs ∧ Q y
def Opens (P : Program) (d : Kd α) (t : TypeId) (Q : α → Prop) : Prop := ∀ fuel, OpensN P fuel d t Q
section
variable {P : Program} {t e : TypeId} {d : Kd α} {Q : α → Prop} {fuel : Nat}
theorem OpensN.none (h : P.cellsOf t = d.sz) : OpensN P 0 d t Q := ⟨h, fun H enc W cs x hx => by simp [DataW.trod] at hx⟩
theorem one_cell {H : Type} {enc : TypeId × Value → H} {W : World} {cs : List Value} {x : DataW H × List MemPlace} {u : TypeDesc} (hu : P.underlying t = some u) (h1 : (match u with | .struct _ | .array _ _ => true | _ => false) = false)
    (hx : DataW.trod enc P W 0 (fun _ => true) true (fuel + 1) t cs = some x) : ∃ c, cs = [c] := by
  unfold DataW.trod at hx
  rcases cs with _ | ⟨c, _ | ⟨c2, r⟩⟩
  · cases u <;> simp [hu] at hx h1
  · exact ⟨c, rfl⟩
  · cases u <;> simp [hu] at hx h1
theorem Opens.int (k : IntKind) (hu : P.underlying t = some (.int k)) (hc : P.cellsOf t = 1) : Opens P (Kd.int k) t (fun x => (Lit.int k x).wf = true) := by
  intro fuel
  cases fuel with
  | zero => exact OpensN.none hc
  | succ fuel =>
    refine ⟨hc, fun H enc W cs x hx => ?_⟩
    obtain ⟨c, rfl⟩ := one_cell hu rfl hx
    unfold DataW.trod at hx
    cases c <;> simp [hu] at hx
    rename_i k' n
    obtain ⟨⟨rfl, hw⟩, _⟩ := hx
    exact ⟨n, rfl, hw⟩
theorem Opens.bool (hu : P.underlying t = some .bool) (hc : P.cellsOf t = 1) : Opens P Kd.bool t (fun _ => True) := by
  intro fuel
  cases fuel with
  | zero => exact OpensN.none hc
  | succ fuel =>
    refine ⟨hc, fun H enc W cs x hx => ?_⟩
    obtain ⟨c, rfl⟩ := one_cell hu rfl hx
    unfold DataW.trod at hx
    cases c <;> simp [hu] at hx
    rename_i b
    exact ⟨b, rfl, trivial⟩
theorem Opens.string (hu : P.underlying t = some .string) (hc : P.cellsOf t = 1) : Opens P Kd.string t (fun s => s.size ≤ maxLen) := by
  intro fuel
  cases fuel with
  | zero => exact OpensN.none hc
  | succ fuel =>
    refine ⟨hc, fun H enc W cs x hx => ?_⟩
    obtain ⟨c, rfl⟩ := one_cell hu rfl hx
    unfold DataW.trod at hx
    cases c <;> simp [hu] at hx
    rename_i s
    exact ⟨s, rfl, hx.1⟩
/-- The cells of a slice. -/
theorem slice_cell {H : Type} {enc : TypeId × Value → H} {W : World} {cs : List Value} {x : DataW H × List MemPlace} (hu : P.underlying t = some (.slice e)) (hx : DataW.trod enc P W 0 (fun _ => true) true (fuel + 1) t cs = some x) :
    cs = [.slice none 0 0] ∨ ∃ a len cap, cs = [.slice (some a) len cap] ∧ len ≤ cap ∧ cap ≤ maxLen ∧
      ∃ els rest, (List.range len).mapM (fun i => (W.cells? 0 (a.add (i * P.cellsOf e)) (P.cellsOf e)).bind (DataW.trod enc P W 0 (fun _ => true) true fuel e)) = some els ∧ x.1 = .slice (els.map (·.1)) rest := by
  obtain ⟨c, rfl⟩ := one_cell hu rfl hx
  unfold DataW.trod at hx
  cases c <;> try (simp [hu] at hx; done)
  rename_i A len cap
  cases A with
  | none =>
    by_cases h0 : len = 0 ∧ cap = 0
    · obtain ⟨rfl, rfl⟩ := h0
      exact .inl rfl
    · exfalso
      rcases len with _ | len <;> rcases cap with _ | cap <;> simp [hu] at hx h0
  | some a =>
    right
    simp only [hu] at hx
    split at hx
    · rename_i hcnd
      rw [Option.bind_eq_some_iff] at hx
      obtain ⟨els, hels, hx⟩ := hx
      rw [Option.map_eq_some_iff] at hx
      obtain ⟨rest, _, hx⟩ := hx
      exact ⟨a, len, cap, rfl, hcnd.2.1, hcnd.2.2, els, rest.map (·.1), hels, by rw [← hx]⟩
    · simp at hx
theorem OpensN.slice (hu : P.underlying t = some (.slice e)) (hc : P.cellsOf t = 1) (h : OpensN P fuel d e Q) : OpensN P (fuel + 1) (Kd.slice e d) t (fun xs => xs.length ≤ maxLen ∧ ∀ x ∈ xs, Q x) := by
  obtain ⟨hsz, h⟩ := h
  refine ⟨hc, fun H enc W cs x hx => ?_⟩
  rcases slice_cell hu hx with rfl | ⟨a, len, cap, rfl, hlc, hcm, els, rest, hels, _⟩
  · refine ⟨[], ⟨Option.none, 0, rfl, Nat.le_refl _, ?_⟩, by simp, by simp⟩
    exact ⟨rfl, by simp, fun h => absurd h (by simp)⟩
  · skip
    · skip
      have hlen : els.length = len := by simpa using mapM_some_length hels
      have hget := fun i (hi : i < len) => mapM_some_get hels i i (by simp [hi])
      have hall : ∀ i, i < len → ∃ (y : α) (c : List Value), d.K W y c ∧ Q y ∧ c.length = d.sz ∧ ∀ j u, c[j]? = some u → W.cell? (a.add (i * d.sz + j)) = some u := by
        intro i hi
        have hi2 := hget i hi
        rw [List.getElem?_eq_getElem (by omega : i < els.length), Option.bind_eq_some_iff] at hi2
        obtain ⟨c, hcs, hr⟩ := hi2
        obtain ⟨y, hy, hq⟩ := h H enc W c _ hr
        obtain ⟨_, hcl, hcell⟩ := World.cells?_some hcs
        refine ⟨y, c, hy, hq, d.K_len hy, fun j u hj => ?_⟩
        have hjl : j < P.cellsOf e := by
          have : j < c.length := by
            rcases Nat.lt_or_ge j c.length with hlt | hge
            · exact hlt
            · rw [List.getElem?_eq_none hge] at hj; simp at hj
          omega
        have := hcell j hjl
        rw [hj, hsz, Addr.add_add] at this
        exact this
      obtain ⟨ys, hys⟩ : ∃ ys : List α, ys.length = len ∧ ∀ i (hi : i < ys.length), (∃ c : List Value, d.K W ys[i] c ∧ Q ys[i] ∧ c.length = d.sz ∧ ∀ j u, c[j]? = some u → W.cell? (a.add (i * d.sz + j)) = some u) := by
        clear hels hget hlen hlc hcm hx
        induction len with
        | zero => exact ⟨[], rfl, fun i hi => absurd hi (by simp)⟩
        | succ n ih =>
          obtain ⟨ys, hl, hy⟩ := ih (fun i hi => hall i (by omega))
          obtain ⟨y, c, hk, hq, hcl, hcc⟩ := hall n (by omega)
          refine ⟨ys ++ [y], by simp [hl], fun i hi => ?_⟩
          by_cases hin : i < ys.length
          · have := hy i hin
            rw [List.getElem_append_left hin]
            exact this
          · have hie : i = n := by simp at hi; omega
            subst hie
            rw [List.getElem_append_right (by omega)]
            simp only [hl, Nat.sub_self, List.getElem_cons_zero]
            exact ⟨c, hk, hq, hcl, hcc⟩
      obtain ⟨hyl, hy⟩ := hys
      refine ⟨ys, ⟨some a, cap, by rw [hyl], by omega, ?_⟩, by omega, ?_⟩
      · refine ⟨rfl, by rw [hyl]; exact Nat.le_trans hlc hcm, fun _ => ⟨a, rfl, fun j p hj => ?_⟩⟩
        have hjl : j < ys.length := by
          rcases Nat.lt_or_ge j ys.length with hlt | hge
          · exact hlt
          · rw [List.getElem?_eq_none hge] at hj; simp at hj
        obtain ⟨c, hk, hq, hcl, hcc⟩ := hy j hjl
        rw [List.getElem?_eq_getElem hjl] at hj
        obtain rfl := Option.some.inj hj
        exact ⟨c, hcl, hk, hcc⟩
      · intro x hx
        obtain ⟨i, hi, rfl⟩ := List.getElem_of_mem hx
        obtain ⟨c, hk, hq, _⟩ := hy i hi
        exact hq
theorem Opens.slice (hu : P.underlying t = some (.slice e)) (hc : P.cellsOf t = 1) (h : Opens P d e Q) : Opens P (Kd.slice e d) t (fun xs => xs.length ≤ maxLen ∧ ∀ x ∈ xs, Q x) := by
  intro fuel
  cases fuel with
  | zero => exact OpensN.none hc
  | succ fuel => exact OpensN.slice hu hc (h fuel)
end
/-- The fields from one on, read one by one, tell a value of kind d out of the cells from o on. -/
def OpensF (P : Program) (fuel : Nat) (fs : List Field) (o : Nat) (d : Kd α) (Q : α → Prop) : Prop :=
  ∀ (H : Type) (enc : TypeId × Value → H) (W : World) (cs : List Value) (xs : List (DataW H × List MemPlace)),
    (fs.mapM fun f => DataW.trod enc P W 0 (fun _ => true) true fuel f.type ((cs.drop f.offset).take (P.cellsOf f.type))) = some xs → cs.length = o + d.sz → ∃ y, d.K W y (cs.drop o) ∧ Q y
section
variable {P : Program} {t : TypeId} {a : Kd α} {b : Kd β} {Q : α → Prop} {R : β → Prop} {fuel o : Nat} {f : Field} {fs : List Field}
theorem OpensF.last (ho : f.offset = o) (h : OpensN P fuel a f.type Q) : OpensF P fuel [f] o a Q := by
  intro H enc W cs xs hx hl
  simp only [List.mapM_cons, List.mapM_nil] at hx
  rw [Option.bind_eq_bind, Option.bind_eq_some_iff] at hx
  obtain ⟨y, hy, _⟩ := hx
  rw [ho, h.1, List.take_of_length_le (by rw [List.length_drop]; omega)] at hy
  exact h.2 H enc W _ _ hy
theorem OpensF.cons (ho : f.offset = o) (h : OpensN P fuel a f.type Q) (hs : OpensF P fuel fs (o + a.sz) b R) : OpensF P fuel (f :: fs) o (Kd.pair a b) (fun x => Q x.1 ∧ R x.2) := by
  intro H enc W cs xs hx hl
  simp only [List.mapM_cons] at hx
  rw [Option.bind_eq_bind, Option.bind_eq_some_iff] at hx
  obtain ⟨y, hy, hx⟩ := hx
  rw [Option.bind_eq_bind, Option.bind_eq_some_iff] at hx
  obtain ⟨ys, hys, _⟩ := hx
  rw [ho, h.1] at hy
  obtain ⟨u, hu, hq⟩ := h.2 H enc W _ _ hy
  obtain ⟨v, hv, hr⟩ := hs H enc W cs ys hys (by have : (Kd.pair a b).sz = a.sz + b.sz := rfl; omega)
  refine ⟨(u, v), ⟨(cs.drop o).take a.sz, (cs.drop o).drop a.sz, (List.take_append_drop _ _).symm, hu, ?_⟩, hq, hr⟩
  rw [List.drop_drop]
  exact hv
theorem OpensF.iso {γ : Type} (g : γ → α) (inv : α → γ) (hg : ∀ x, g (inv x) = x) (h : OpensF P fuel fs o a Q) : OpensF P fuel fs o (Kd.iso a g) (fun x => Q (g x)) := by
  intro H enc W cs xs hx hl
  obtain ⟨y, hy, hq⟩ := h H enc W cs xs hx hl
  exact ⟨inv y, by show a.K W (g (inv y)) _; rw [hg]; exact hy, by show Q (g (inv y)); rw [hg]; exact hq⟩
theorem OpensN.struct {gs : Array Field} (hu : P.underlying t = some (.struct gs)) (hc : P.cellsOf t = a.sz) (h : OpensF P fuel gs.toList 0 a Q) : OpensN P (fuel + 1) a t Q := by
  refine ⟨hc, fun H enc W cs x hx => ?_⟩
  have hx2 : (if cs.length = P.cellsOf t then (gs.toList.mapM fun f => DataW.trod enc P W 0 (fun _ => true) true fuel f.type ((cs.drop f.offset).take (P.cellsOf f.type))).map fun xs => (DataW.agg (xs.map (·.1)), xs.flatMap (·.2)) else Option.none) = some x := by
    rw [← hx]
    conv => rhs; unfold DataW.trod
    simp only [hu]
  split at hx2
  · rename_i hl
    rw [Option.map_eq_some_iff] at hx2
    obtain ⟨xs, hxs, _⟩ := hx2
    have := h H enc W cs xs hxs (by omega)
    simpa using this
  · simp at hx2
/-- The places of an array, read one by one. -/
def OpensA (P : Program) (fuel : Nat) (e : TypeId) (is : List Nat) (o : Nat) (d : Kd α) (Q : α → Prop) : Prop :=
  ∀ (H : Type) (enc : TypeId × Value → H) (W : World) (cs : List Value) (xs : List (DataW H × List MemPlace)),
    (is.mapM fun i => DataW.trod enc P W 0 (fun _ => true) true fuel e ((cs.drop (i * P.cellsOf e)).take (P.cellsOf e))) = some xs → cs.length = o + d.sz → ∃ y, d.K W y (cs.drop o) ∧ Q y
theorem OpensA.last {e : TypeId} {i : Nat} (ho : i * P.cellsOf e = o) (h : OpensN P fuel a e Q) : OpensA P fuel e [i] o a Q := by
  intro H enc W cs xs hx hl
  simp only [List.mapM_cons, List.mapM_nil] at hx
  rw [Option.bind_eq_bind, Option.bind_eq_some_iff] at hx
  obtain ⟨y, hy, _⟩ := hx
  rw [ho, h.1, List.take_of_length_le (by rw [List.length_drop]; omega)] at hy
  exact h.2 H enc W _ _ hy
theorem OpensA.cons {e : TypeId} {i : Nat} {is : List Nat} (ho : i * P.cellsOf e = o) (h : OpensN P fuel a e Q) (hs : OpensA P fuel e is (o + a.sz) b R) : OpensA P fuel e (i :: is) o (Kd.pair a b) (fun x => Q x.1 ∧ R x.2) := by
  intro H enc W cs xs hx hl
  simp only [List.mapM_cons] at hx
  rw [Option.bind_eq_bind, Option.bind_eq_some_iff] at hx
  obtain ⟨y, hy, hx⟩ := hx
  rw [Option.bind_eq_bind, Option.bind_eq_some_iff] at hx
  obtain ⟨ys, hys, _⟩ := hx
  rw [ho, h.1] at hy
  obtain ⟨u, hu, hq⟩ := h.2 H enc W _ _ hy
  obtain ⟨v, hv, hr⟩ := hs H enc W cs ys hys (by have : (Kd.pair a b).sz = a.sz + b.sz := rfl; omega)
  refine ⟨(u, v), ⟨(cs.drop o).take a.sz, (cs.drop o).drop a.sz, (List.take_append_drop _ _).symm, hu, ?_⟩, hq, hr⟩
  rw [List.drop_drop]
  exact hv
theorem OpensA.iso {γ : Type} {e : TypeId} {is : List Nat} (g : γ → α) (inv : α → γ) (hg : ∀ x, g (inv x) = x) (h : OpensA P fuel e is o a Q) : OpensA P fuel e is o (Kd.iso a g) (fun x => Q (g x)) := by
  intro H enc W cs xs hx hl
  obtain ⟨y, hy, hq⟩ := h H enc W cs xs hx hl
  exact ⟨inv y, by show a.K W (g (inv y)) _; rw [hg]; exact hy, by show Q (g (inv y)); rw [hg]; exact hq⟩
theorem OpensN.array {n : Nat} {e : TypeId} (hu : P.underlying t = some (.array n e)) (hc : P.cellsOf t = a.sz) (h : OpensA P fuel e (List.range n) 0 a Q) : OpensN P (fuel + 1) a t Q := by
  refine ⟨hc, fun H enc W cs x hx => ?_⟩
  have hx2 : (if cs.length = P.cellsOf t then ((List.range n).mapM fun i => DataW.trod enc P W 0 (fun _ => true) true fuel e ((cs.drop (i * P.cellsOf e)).take (P.cellsOf e))).map fun xs => (DataW.agg (xs.map (·.1)), xs.flatMap (·.2)) else Option.none) = some x := by
    rw [← hx]
    conv => rhs; unfold DataW.trod
    simp only [hu]
  split at hx2
  · rename_i hl
    rw [Option.map_eq_some_iff] at hx2
    obtain ⟨xs, hxs, _⟩ := hx2
    have := h H enc W cs xs hxs (by omega)
    simpa using this
  · simp at hx2
end
section
variable {P : Program} {t e : TypeId} {d : Kd α} {Q : α → Prop} {H : Type} {enc : TypeId × Value → H} {W : World} {D : DataW H} {p : List MemPlace} {v : Value}
/-- A struct that came in by value. -/
theorem agg_of {r : Reach} {base : Nat} {fs : Array Field} (hu : P.underlying t = some (.struct fs)) (hv : Value.okWide P W r base t v) (ho : Opens P d t Q) (h : DataW.Trod enc P W 0 (fun _ => true) true t v D p) : ∃ cs x, v = .agg cs ∧ d.K W x cs.toList ∧ Q x := by
  obtain ⟨cs, rfl, _⟩ := Go.WideShapes.okWide_struct hu hv
  obtain ⟨fuel, hf⟩ := h
  obtain ⟨x, hx, hq⟩ := (ho fuel).2 H enc W _ _ hf
  exact ⟨cs, x, rfl, hx, hq⟩
end
end Go.Proofs.Ytoeklekjhaigoaa.Open
end
section
namespace Go.Proofs.Ytoeklekjhaigoaa.WCond
open Go.Proofs.Ytoeklekjhaigoaa.Al Go.RowKit Go.Proofs.YtoeklekjhaigoaaW.PrintWords Go.Proofs.Ytoeklekjhaigoaa.Open Go.Proofs.Ytoeklekjhaigoaa.M0
set_option linter.unusedVariables false
set_option maxRecDepth 100000
inductive Q46 : S46 → Prop where
  | mk (x : S46) (h0 : (Lit.int .i64 x.f0).wf = true) (h1 : x.f1.length ≤ maxLen) (hk : ∀ y ∈ x.f1, Q46 y) (h2 : (Lit.int .i64 x.f2).wf = true) (h3 : (Lit.int .u64 x.f3).wf = true) (h4 : x.f4.size ≤ maxLen) (h5 : (Lit.int .u64 x.f5).wf = true) : Q46 x
theorem opens46_ : ∀ n fuel, fuel ≤ n → OpensN Try.prog fuel k46 46 Q46 := by
  intro n
  induction n with
  | zero =>
    intro fuel hf
    obtain rfl : fuel = 0 := by omega
    exact OpensN.none (by kernel_rfl)
  | succ n ih =>
    intro fuel hf
    cases fuel with
    | zero => exact OpensN.none (by kernel_rfl)
    | succ fuel =>
      have hs : OpensN Try.prog fuel (Kd.slice 46 k46) 44 (fun xs => xs.length ≤ maxLen ∧ ∀ x ∈ xs, Q46 x) := by
        cases fuel with
        | zero => exact OpensN.none (by kernel_rfl)
        | succ f => exact OpensN.slice Try.underlying44 (by kernel_rfl) (ih f (by omega))
      have h := OpensN.struct (t := 46) Try.underlying46 (by kernel_rfl) (OpensF.iso (fun x : S46 => (x.f0, x.f1, x.f2, x.f3, x.f4, x.f5)) (fun p => ⟨p.1, p.2.1, p.2.2.1, p.2.2.2.1, p.2.2.2.2.1, p.2.2.2.2.2⟩) (fun _ => rfl) (OpensF.cons (by kernel_rfl) (Opens.int .i64 Try.underlying3 (by kernel_rfl) fuel) (OpensF.cons (by kernel_rfl) hs (OpensF.cons (by kernel_rfl) (Opens.int .i64 Try.underlying3 (by kernel_rfl) fuel) (OpensF.cons (by kernel_rfl) (Opens.int .u64 Try.underlying30 (by kernel_rfl) fuel) (OpensF.cons (by kernel_rfl) (Opens.string Try.underlying9 (by kernel_rfl) fuel) (OpensF.last (by kernel_rfl) (Opens.int .u64 Try.underlying30 (by kernel_rfl) fuel))))))))
      refine ⟨h.1, fun H enc W cs x hx => ?_⟩
      obtain ⟨y, hy, h0, ⟨h1, hk⟩, h2, h3, h4, h5⟩ := h.2 H enc W cs x hx
      refine ⟨y, ?_, .mk y h0 h1 hk h2 h3 h4 h5⟩
      obtain ⟨_, _, rfl, e0, _, _, rfl, ⟨A1, c1, rfl, l1, g1⟩, _, _, rfl, e2, _, _, rfl, e3, _, _, rfl, e4, e5⟩ := hy
      have e0 : _ = [_] := e0
      have e2 : _ = [_] := e2
      have e3 : _ = [_] := e3
      have e4 : _ = [_] := e4
      have e5 : _ = [_] := e5
      subst e0 e2 e3 e4 e5
      exact k46_mk W y l1 g1
theorem opens46 : Opens Try.prog k46 46 Q46 := fun fuel => opens46_ fuel fuel (Nat.le_refl _)
end Go.Proofs.Ytoeklekjhaigoaa.WCond
end
section
namespace Go.Proofs.Ytoeklekjhaigoaa.K56
open Go.Proofs.Ytoeklekjhaigoaa.Al Go.RowKit Go.Proofs.YtoeklekjhaigoaaW.PrintWords Go.Proofs.YtoeklekjhaigoaaW.PrintLast Go.Proofs.YtoeklekjhaigoaaW.PrintMore Go.Proofs.Ytoeklekjhaigoaa.M0
structure S56 where
  f0 : Int
  f1 : Int
  f2 : List S58
def k56 : Kd S56 := Kd.iso (Kd.pair (Kd.int .u32) (Kd.pair (Kd.int .u32) (Kd.slice 58 k58))) (fun x : S56 => (x.f0, x.f1, x.f2))
theorem k56_open {w : World} {x : S56} {cs : List Value} (h : k56.K w x cs) : ∃ A2 c2, cs = [.int .u32 x.f0, .int .u32 x.f1, .slice A2 x.f2.length c2] ∧ x.f2.length ≤ c2 ∧ k58.C w A2 x.f2.length x.f2 := by
  obtain ⟨_, _, rfl, rfl, ⟨_, _, rfl, rfl, ⟨A2, c2, rfl, l2, g2⟩⟩⟩ := h
  exact ⟨A2, c2, rfl, l2, g2⟩
end Go.Proofs.Ytoeklekjhaigoaa.K56
end
section
namespace Go.Proofs.Ytoeklekjhaigoaa.StatMeanRules
open Go.Proofs.Ytoeklekjhaigoaa.Al Go.RowKit Go.Proofs.YtoeklekjhaigoaaW.PrintWords Go.Proofs.Ytoeklekjhaigoaa.Open Go.Proofs.Ytoeklekjhaigoaa.PMeanRules Go.Proofs.Ytoeklekjhaigoaa.Le Go.Proofs.Ytoeklekjhaigoaa.C1 Go.Proofs.Ytoeklekjhaigoaa.C2 Go.Proofs.Ytoeklekjhaigoaa.HAct Go.Proofs.Ytoeklekjhaigoaa.W0 Go.Proofs.Ytoeklekjhaigoaa.HFrom Go.Proofs.Ytoeklekjhaigoaa.W1 Go.Proofs.Ytoeklekjhaigoaa.R01 Go.Proofs.Ytoeklekjhaigoaa.HPack Go.Proofs.Ytoeklekjhaigoaa.HUnpack Go.Proofs.Ytoeklekjhaigoaa.HRefPack Go.Proofs.Ytoeklekjhaigoaa.M0 Go.Proofs.Ytoeklekjhaigoaa.HMany Go.Proofs.Ytoeklekjhaigoaa.HCount Go.Proofs.Ytoeklekjhaigoaa.M1 Go.Proofs.Ytoeklekjhaigoaa.HMean Go.Proofs.Ytoeklekjhaigoaa.M2 Go.Proofs.Ytoeklekjhaigoaa.K49 Go.Proofs.Ytoeklekjhaigoaa.WCond Go.Proofs.Ytoeklekjhaigoaa.K56
set_option maxRecDepth 100000
def Q22 (x : Int) : Prop := (Lit.int .u32 x).wf = true
theorem opens22 : Opens Try.prog (Kd.int .u32) 22 Q22 := Opens.int .u32 Try.underlying22 (by kernel_rfl)
def Q23 (x : List Int) : Prop := (x.length ≤ maxLen ∧ ∀ y_ ∈ x, Q22 y_)
theorem opens23 : Opens Try.prog (Kd.slice 22 (Kd.int .u32)) 23 Q23 := Opens.slice Try.underlying23 (by kernel_rfl) opens22
def Q58 (x : S58) : Prop := Q23 x.f0 ∧ Q46 x.f1 ∧ Q22 x.f2
theorem opens58 : Opens Try.prog k58 58 Q58 := by
  intro fuel
  cases fuel with
  | zero => exact OpensN.none (by kernel_rfl)
  | succ fuel => exact OpensN.struct Try.underlying58 (by kernel_rfl) (OpensF.iso (fun x : S58 => (x.f0, x.f1, x.f2)) (fun p => ⟨p.1, p.2.1, p.2.2⟩) (fun _ => rfl) (OpensF.cons (by kernel_rfl) (opens23 fuel) (OpensF.cons (by kernel_rfl) (opens46 fuel) (OpensF.last (by kernel_rfl) (opens22 fuel)))))
def Q54 (x : List S58) : Prop := (x.length ≤ maxLen ∧ ∀ y_ ∈ x, Q58 y_)
theorem opens54 : Opens Try.prog (Kd.slice 58 k58) 54 Q54 := Opens.slice Try.underlying54 (by kernel_rfl) opens58
def Q56 (x : S56) : Prop := Q22 x.f0 ∧ Q22 x.f1 ∧ Q54 x.f2
theorem opens56 : Opens Try.prog k56 56 Q56 := by
  intro fuel
  cases fuel with
  | zero => exact OpensN.none (by kernel_rfl)
  | succ fuel => exact OpensN.struct Try.underlying56 (by kernel_rfl) (OpensF.iso (fun x : S56 => (x.f0, x.f1, x.f2)) (fun p => ⟨p.1, p.2.1, p.2.2⟩) (fun _ => rfl) (OpensF.cons (by kernel_rfl) (opens22 fuel) (OpensF.cons (by kernel_rfl) (opens22 fuel) (OpensF.last (by kernel_rfl) (opens54 fuel)))))
def Q30 (x : Int) : Prop := (Lit.int .u64 x).wf = true
theorem opens30 : Opens Try.prog (Kd.int .u64) 30 Q30 := Opens.int .u64 Try.underlying30 (by kernel_rfl)
def Q47 (x : S47) : Prop := Q30 x.f0 ∧ Q30 x.f1 ∧ Q30 x.f2 ∧ Q30 x.f3 ∧ Q30 x.f4 ∧ Q30 x.f5
theorem opens47 : Opens Try.prog k47 47 Q47 := by
  intro fuel
  cases fuel with
  | zero => exact OpensN.none (by kernel_rfl)
  | succ fuel => exact OpensN.array Try.underlying47 (by kernel_rfl) (OpensA.iso (fun x : S47 => (x.f0, x.f1, x.f2, x.f3, x.f4, x.f5)) (fun p => ⟨p.1, p.2.1, p.2.2.1, p.2.2.2.1, p.2.2.2.2.1, p.2.2.2.2.2⟩) (fun _ => rfl) (OpensA.cons (by kernel_rfl) (opens30 fuel) (OpensA.cons (by kernel_rfl) (opens30 fuel) (OpensA.cons (by kernel_rfl) (opens30 fuel) (OpensA.cons (by kernel_rfl) (opens30 fuel) (OpensA.cons (by kernel_rfl) (opens30 fuel) (OpensA.last (by kernel_rfl) (opens30 fuel))))))))
def Q49 (x : S49) : Prop := Q22 x.f0 ∧ Q22 x.f1 ∧ Q30 x.f2 ∧ Q47 x.f3
theorem opens49 : Opens Try.prog k49 49 Q49 := by
  intro fuel
  cases fuel with
  | zero => exact OpensN.none (by kernel_rfl)
  | succ fuel => exact OpensN.struct Try.underlying49 (by kernel_rfl) (OpensF.iso (fun x : S49 => (x.f0, x.f1, x.f2, x.f3)) (fun p => ⟨p.1, p.2.1, p.2.2.1, p.2.2.2⟩) (fun _ => rfl) (OpensF.cons (by kernel_rfl) (opens22 fuel) (OpensF.cons (by kernel_rfl) (opens22 fuel) (OpensF.cons (by kernel_rfl) (opens30 fuel) (OpensF.last (by kernel_rfl) (opens47 fuel))))))
def Stat : Prop := ∀ (a0 : S56) (a1 : S58) (a2 : S49), Q56 a0 → Q58 a1 → Q49 a2 → ∃ k, doorwardlaw18_MeanRules.f k a0.f0 a0.f1 a0.f2 a1.f0 a1.f1.f0 a1.f1.f1 a1.f1.f2 a1.f1.f3 a1.f1.f4 a1.f1.f5 a1.f2 a2.f0 a2.f1 a2.f2 a2.f3.f0 a2.f3.f1 a2.f3.f2 a2.f3.f3 a2.f3.f4 a2.f3.f5 = some true
end Go.Proofs.Ytoeklekjhaigoaa.StatMeanRules
end
section
namespace Go.Proofs.Ytoeklekjhaigoaa.QHolds
open Go.Proofs.Ytoeklekjhaigoaa.Al Go.RowKit Go.Proofs.YtoeklekjhaigoaaW.PrintWords Go.Proofs.YtoeklekjhaigoaaW.PrintLast Go.Proofs.YtoeklekjhaigoaaW.PrintMore Go.Proofs.Ytoeklekjhaigoaa.M0 Go.Proofs.Ytoeklekjhaigoaa.M1 Go.Proofs.Ytoeklekjhaigoaa.M2 Go.Proofs.Ytoeklekjhaigoaa.HMany Go.Proofs.Ytoeklekjhaigoaa.HCount Go.Proofs.Ytoeklekjhaigoaa.HMean Go.Proofs.Ytoeklekjhaigoaa.QCond Go.Proofs.Ytoeklekjhaigoaa.QMean Go.Proofs.Ytoeklekjhaigoaa.QOne Go.Proofs.Ytoeklekjhaigoaa.K49
set_option linter.unusedVariables false
set_option linter.unusedSimpArgs false
theorem eta46 (c : S46) : (⟨c.f0, c.f1, c.f2, c.f3, c.f4, c.f5⟩ : S46) = c := by cases c; rfl
theorem many_f (c : S46) (L : Int) (h1 : 1 ≤ L) (h2 : L ≤ 1000) : doorwardref15_Many.f c.f0 c.f1 c.f2 c.f3 c.f4 c.f5 L = some ((min (nodes c) (L.toNat + 1) : Nat) : Int) := by
  unfold doorwardref15_Many.f
  rw [if_pos ⟨h1, h2⟩, eta46]
theorem typesRight_f (c : S46) : types_Right.f c.f0 c.f1 c.f2 c.f3 c.f4 c.f5 = some (rightB c) := by
  unfold types_Right.f types_count.f
  rw [Option.bind_some, eta46]
  show some (countR c).2 = _
  unfold countR
  cases rightB c <;> rfl
theorem meanHolds_f (c : S46) (x : S49) : mean_Holds.f c.f0 c.f1 c.f2 c.f3 c.f4 c.f5 x.f0 x.f1 x.f2 x.f3.f0 x.f3.f1 x.f3.f2 x.f3.f3 x.f3.f4 x.f3.f5 = some (holdsB x c) := by
  unfold mean_Holds.f
  rw [none_f0, Option.bind_some, typesRight_f, Option.bind_some]
  unfold holdsB
  cases noneB c with
  | true => rfl
  | false =>
    rw [if_neg (by decide), Bool.false_or]
    by_cases h : rightB c = true
    · have ⟨hf, hn⟩ := right_fits h
      rw [if_pos h, h, Bool.true_and]
      unfold mean_holds.f
      rw [eta46]
      show ((if (fitsB c && decide (nodes c ≤ 1000)) = true then some (semB x c) else none).bind _) = _
      rw [if_pos (show (fitsB c && decide (nodes c ≤ 1000)) = true by rw [hf, decide_eq_true (by omega)]; rfl)]
      rfl
    · rw [if_neg h]
      have h : rightB c = false := by simpa using h
      rw [h]; rfl
theorem count_none {α : Type} (p : α → Bool) (l : List α) : (((l.countP p : Nat) : Int) == 0) = !l.any p := by
  rw [Bool.eq_iff_iff, beq_iff_eq, Bool.not_eq_true', List.any_eq_false]
  have := List.countP_eq_zero (p := p) (l := l)
  constructor
  · intro h a ha
    simpa using this.1 (by omega) a ha
  · intro h
    have := this.2 (fun a ha => by simpa using h a ha)
    omega
theorem count_some {α : Type} (p : α → Bool) (l : List α) : decide (((l.countP p : Nat) : Int) > 0) = l.any p := by
  have h := count_none p l
  cases ha : l.any p with
  | true => rw [ha] at h; rw [decide_eq_true_eq]; have : ¬ ((l.countP p : Nat) : Int) = 0 := by simpa using h
            omega
  | false => rw [ha] at h; rw [decide_eq_false_iff_not]; have : ((l.countP p : Nat) : Int) = 0 := by simpa using h
             omega
def hitB (x : S49) (r : S58) : Bool := r.f0.contains x.f0 && holdsB x r.f1
def evalR (x : S49) (d : Int) : List S58 → Int
  | [] => d
  | r :: l => if hitB x r = true then r.f2 else evalR x d l
def evalB (x : S49) (arch d : Int) (l : List S58) : Int := if x.f1 = arch then evalR x d l else 2147483648
def fewR (r : S58) : Bool := decide (r.f0.length ≤ 60) && decide (nodes r.f1 ≤ 100)
def fewB (l : List S58) : Bool := decide (l.length ≤ 30) && l.all fewR
theorem rd58 (l : List S58) (i : Nat) (h : i < l.length) : rd_T58 l (i : Int) = l[i] := by
  unfold rd_T58; simp [List.getD, h]
theorem few_loop (l : List S58) (hl : l.length ≤ 30) : ∀ (n i : Nat), l.length - i ≤ n → i ≤ l.length → ∀ k, n < k → doorwardref18_Few.l0 k l (l.length : Int) (i : Int) = some ((l.drop i).all fewR) := by
  intro n
  induction n with
  | zero =>
    intro i h1 h2 k hk
    obtain ⟨k, rfl⟩ : ∃ m, k = m + 1 := ⟨k - 1, by omega⟩
    simp only [doorwardref18_Few.l0]
    rw [if_neg (by omega), List.drop_eq_nil_of_le (by omega)]; rfl
  | succ n ih =>
    intro i h1 h2 k hk
    obtain ⟨k, rfl⟩ : ∃ m, k = m + 1 := ⟨k - 1, by omega⟩
    by_cases hlt : i < l.length
    · have ih' := ih (i + 1) (by omega) (by omega) k (by omega)
      simp only [doorwardref18_Few.l0]
      rw [if_pos (by omega), if_pos (by omega), if_pos (by omega), rd58 l i hlt, wr_succ i (by omega), many_f _ 100 (by omega) (by omega), Option.bind_some, List.drop_eq_getElem_cons hlt, List.all_cons, ih']
      unfold fewR
      by_cases g : l[i].f0.length ≤ 60
      · rw [if_neg (by omega), decide_eq_true g, Bool.true_and]
        by_cases q : nodes l[i].f1 ≤ 100
        · rw [if_neg (by simp only [Int.reduceToNat]; omega), decide_eq_true q, Bool.true_and]
        · rw [if_pos (by simp only [Int.reduceToNat]; omega), decide_eq_false q, Bool.false_and]
      · rw [if_pos (by omega), decide_eq_false g]; rfl
    · simp only [doorwardref18_Few.l0]
      rw [if_neg (by omega), List.drop_eq_nil_of_le (by omega)]; rfl
theorem few_f (a d : Int) (l : List S58) (k : Nat) (hk : 31 < k) : doorwardref18_Few.f k a d l = some (fewB l) := by
  unfold doorwardref18_Few.f fewB
  by_cases h : l.length ≤ 30
  · rw [if_neg (by omega), decide_eq_true h, Bool.true_and]
    have := few_loop l h l.length 0 (by omega) (by omega) k (by omega)
    rw [List.drop_zero] at this
    exact this
  · rw [if_pos (by omega), decide_eq_false h]; rfl
theorem idx_loop32 (v : Int) (l : List Int) (hl : l.length ≤ 1000) : ∀ (n i : Nat), l.length - i ≤ n → i ≤ l.length → ∀ k, n < k → (slices_Index_uint32_uint32.l0 k l v (l.length : Int) (i : Int)).map (fun t => decide (t ≥ 0)) = some ((l.drop i).contains v) := by
  intro n
  induction n with
  | zero =>
    intro i h1 h2 k hk
    obtain ⟨k, rfl⟩ : ∃ m, k = m + 1 := ⟨k - 1, by omega⟩
    simp only [slices_Index_uint32_uint32.l0]
    rw [if_neg (by omega), List.drop_eq_nil_of_le (by omega)]; rfl
  | succ n ih =>
    intro i h1 h2 k hk
    obtain ⟨k, rfl⟩ : ∃ m, k = m + 1 := ⟨k - 1, by omega⟩
    by_cases hlt : i < l.length
    · have ih' := ih (i + 1) (by omega) (by omega) k (by omega)
      simp only [slices_Index_uint32_uint32.l0]
      rw [if_pos (by omega), if_pos (by omega), if_pos (by omega), wr_succ i (by omega), List.drop_eq_getElem_cons hlt, List.contains_cons]
      have e : rd l (i : Int) = l[i] := by unfold rd; simp [List.getD, hlt]
      rw [e]
      by_cases q : v = l[i]
      · rw [if_pos q, ← q]; simp
      · rw [if_neg q, ih']
        have : (v == l[i]) = false := by simpa using q
        rw [this, Bool.false_or]
    · simp only [slices_Index_uint32_uint32.l0]
      rw [if_neg (by omega), List.drop_eq_nil_of_le (by omega)]; rfl
theorem contains_f (v : Int) (l : List Int) (hl : l.length ≤ 1000) (k : Nat) (hk : l.length < k) : slices_Contains_uint32_uint32.f k l v = some (l.contains v) := by
  unfold slices_Contains_uint32_uint32.f slices_Index_uint32_uint32.f
  have h := idx_loop32 v l hl l.length 0 (by omega) (by omega) k hk
  have hb : ∀ o : Option Int, (o.bind fun t => some (decide (t ≥ 0))) = o.map fun t => decide (t ≥ 0) := by intro o; cases o <;> rfl
  rw [hb]
  exact h
theorem eval_loop (x : S49) (a d : Int) (R l : List S58) (hl : l.length ≤ 40) (hr : l.all fewR = true) : ∀ (n i : Nat), l.length - i ≤ n → i ≤ l.length → ∀ k, n + 100 ≤ k → mean_Eval.l0 k l (l.length : Int) (i : Int) a d R x.f0 x.f1 x.f2 x.f3.f0 x.f3.f1 x.f3.f2 x.f3.f3 x.f3.f4 x.f3.f5 = some (evalR x d (l.drop i)) := by
  intro n
  induction n with
  | zero =>
    intro i h1 h2 k hk
    obtain ⟨k, rfl⟩ : ∃ m, k = m + 1 := ⟨k - 1, by omega⟩
    simp only [mean_Eval.l0]
    rw [if_neg (by omega), List.drop_eq_nil_of_le (by omega)]; rfl
  | succ n ih =>
    intro i h1 h2 k hk
    obtain ⟨k, rfl⟩ : ∃ m, k = m + 1 := ⟨k - 1, by omega⟩
    by_cases hlt : i < l.length
    · have ih' := ih (i + 1) (by omega) (by omega) k (by omega)
      have hf := List.all_eq_true.1 hr l[i] (List.getElem_mem hlt)
      unfold fewR at hf
      rw [Bool.and_eq_true, decide_eq_true_eq, decide_eq_true_eq] at hf
      simp only [mean_Eval.l0]
      rw [if_pos (by omega), if_pos (by omega), if_pos (by omega), rd58 l i hlt, wr_succ i (by omega), contains_f _ _ (by omega) k (by omega), Option.bind_some, meanHolds_f, Option.bind_some, ih', List.drop_eq_getElem_cons hlt]
      rw [evalR]
      unfold hitB
      cases l[i].f0.contains x.f0 with
      | true =>
        rw [if_pos rfl, Bool.true_and]
        cases holdsB x l[i].f1 <;> rfl
      | false => rfl
    · simp only [mean_Eval.l0]
      rw [if_neg (by omega), List.drop_eq_nil_of_le (by omega)]; rfl
theorem eval_f (x : S49) (a d : Int) (l : List S58) (hl : l.length ≤ 40) (hr : l.all fewR = true) (k : Nat) (hk : 200 ≤ k) : mean_Eval.f k a d l x.f0 x.f1 x.f2 x.f3.f0 x.f3.f1 x.f3.f2 x.f3.f3 x.f3.f4 x.f3.f5 = some (evalB x a d l) := by
  unfold mean_Eval.f evalB
  split
  · have := eval_loop x a d l l hl hr l.length 0 (by omega) (by omega) k (by omega)
    rw [List.drop_zero] at this
    exact this
  · rfl
theorem alive_f (k : Nat) (hk : 200 ≤ k) : doorwardlaw18_alive.f k = some true := by
  unfold doorwardlaw18_alive.f
  have h1 := eval_f ⟨0, 5, 0, ⟨0, 0, 0, 0, 0, 0⟩⟩ 5 7 [] (by simp) rfl k hk
  have h2 := meanHolds_f ⟨0, [], 0, 0, ⟨#[]⟩, 0⟩ ⟨0, 0, 0, ⟨0, 0, 0, 0, 0, 0⟩⟩
  have e1 : evalB ⟨0, 5, 0, ⟨0, 0, 0, 0, 0, 0⟩⟩ 5 7 [] = 7 := rfl
  have e2 : holdsB ⟨0, 0, 0, ⟨0, 0, 0, 0, 0, 0⟩⟩ ⟨0, [], 0, 0, ⟨#[]⟩, 0⟩ = true := by
    unfold holdsB noneB bareB
    simp [ByteArray.toList_empty]
  rw [e1] at h1
  rw [e2] at h2
  refine (congrArg (fun o : Option Int => o.bind _) h1).trans ?_
  rw [Option.bind_some, if_pos rfl]
  refine (congrArg (fun o : Option Bool => o.bind _) h2).trans ?_
  rfl
end Go.Proofs.Ytoeklekjhaigoaa.QHolds
end
section
namespace Go.Proofs.Ytoeklekjhaigoaa.Pure
open Go.Proofs.Ytoeklekjhaigoaa.Al Go.RowKit Go.Proofs.Ytoeklekjhaigoaa.StatMeanRules Go.Proofs.YtoeklekjhaigoaaW.PrintWords Go.Proofs.YtoeklekjhaigoaaW.PrintLast Go.Proofs.YtoeklekjhaigoaaW.PrintMore Go.Proofs.Ytoeklekjhaigoaa.PMeanRules Go.Proofs.Ytoeklekjhaigoaa.Le Go.Proofs.Ytoeklekjhaigoaa.C1 Go.Proofs.Ytoeklekjhaigoaa.C2 Go.Proofs.Ytoeklekjhaigoaa.HAct Go.Proofs.Ytoeklekjhaigoaa.W0 Go.Proofs.Ytoeklekjhaigoaa.HFrom Go.Proofs.Ytoeklekjhaigoaa.W1 Go.Proofs.Ytoeklekjhaigoaa.R01 Go.Proofs.Ytoeklekjhaigoaa.HPack Go.Proofs.Ytoeklekjhaigoaa.HUnpack Go.Proofs.Ytoeklekjhaigoaa.HRefPack Go.Proofs.Ytoeklekjhaigoaa.M0 Go.Proofs.Ytoeklekjhaigoaa.HMany Go.Proofs.Ytoeklekjhaigoaa.HCount Go.Proofs.Ytoeklekjhaigoaa.M1 Go.Proofs.Ytoeklekjhaigoaa.HMean Go.Proofs.Ytoeklekjhaigoaa.M2 Go.Proofs.Ytoeklekjhaigoaa.K49 Go.Proofs.Ytoeklekjhaigoaa.WCond Go.Proofs.Ytoeklekjhaigoaa.K56 Go.Proofs.Ytoeklekjhaigoaa.QCond Go.Proofs.Ytoeklekjhaigoaa.QMean Go.Proofs.Ytoeklekjhaigoaa.QOne Go.Proofs.Ytoeklekjhaigoaa.QHolds
set_option linter.unusedVariables false
theorem evalR_mem (x : S49) (d : Int) : ∀ l : List S58, evalR x d l = d ∨ (l.any fun r => r.f2 == evalR x d l) = true := by
  intro l
  induction l with
  | nil => exact Or.inl rfl
  | cons r l ih =>
    rw [evalR]
    by_cases h : hitB x r = true
    · rw [if_pos h]; exact Or.inr (by simp)
    · rw [if_neg h]
      rcases ih with ih | ih
      · exact Or.inl ih
      · exact Or.inr (by rw [List.any_cons, ih, Bool.or_true])
theorem evalR_more (x : S49) (d : Int) (m : S58) : ∀ l : List S58, evalR x d l = evalR x d (l ++ [m]) ∨ evalR x d l = d ∧ evalR x d (l ++ [m]) = m.f2 := by
  intro l
  induction l with
  | nil =>
    rw [List.nil_append, evalR, evalR, evalR]
    by_cases h : hitB x m = true
    · rw [if_pos h]; exact Or.inr ⟨rfl, rfl⟩
    · rw [if_neg h]; exact Or.inl rfl
  | cons r l ih =>
    rw [List.cons_append, evalR, evalR]
    by_cases h : hitB x r = true
    · rw [if_pos h, if_pos h]; exact Or.inl rfl
    · rw [if_neg h, if_neg h]; exact ih
def rulesEnd (a b d ma : Int) (ok : Bool) : Bool := if ok = true then (if a = b then true else if a = d then b == ma else false) else false
theorem rules_loop (a b c0 d : Int) (R l : List S58) (n0 : List Int) (n1 : Int) (n2 : List S46) (n3 n4 : Int) (n5 : ByteArray) (n6 n7 : Int) (hl : l.length ≤ 40) : ∀ (n i : Nat), l.length - i ≤ n → i ≤ l.length → ∀ (k : Nat) (ok : Bool), n + 300 ≤ k →
    doorwardlaw18_MeanRules.l0 k a b ok l (l.length : Int) (i : Int) c0 d R n0 n1 n2 n3 n4 n5 n6 n7 = some (rulesEnd a b d n7 (ok || (l.drop i).any fun r => r.f2 == a)) := by
  intro n
  induction n with
  | zero =>
    intro i h1 h2 k ok hk
    obtain ⟨k, rfl⟩ : ∃ m, k = m + 1 := ⟨k - 1, by omega⟩
    simp only [doorwardlaw18_MeanRules.l0]
    rw [if_neg (by omega), List.drop_eq_nil_of_le (by omega), alive_f k (by omega), Option.bind_some, if_pos rfl]
    unfold rulesEnd
    cases ok
    · rfl
    · simp only [if_true, Bool.true_or]
      split
      · rfl
      · split <;> rfl
  | succ n ih =>
    intro i h1 h2 k ok hk
    obtain ⟨k, rfl⟩ : ∃ m, k = m + 1 := ⟨k - 1, by omega⟩
    by_cases hlt : i < l.length
    · simp only [doorwardlaw18_MeanRules.l0]
      rw [if_pos (by omega), if_pos (by omega), if_pos (by omega), rd58 l i hlt, wr_succ i (by omega), List.drop_eq_getElem_cons hlt, List.any_cons]
      cases ok with
      | true => rw [if_pos rfl, ih (i + 1) (by omega) (by omega) k true (by omega), Bool.true_or, Bool.true_or]
      | false => rw [if_neg (by decide), ih (i + 1) (by omega) (by omega) k _ (by omega), Bool.false_or]
    · simp only [doorwardlaw18_MeanRules.l0]
      rw [if_neg (by omega), List.drop_eq_nil_of_le (by omega), alive_f k (by omega), Option.bind_some, if_pos rfl]
      unfold rulesEnd
      cases ok
      · rfl
      · simp only [if_true, Bool.true_or]
        split
        · rfl
        · split <;> rfl
theorem end_ok (x : S49) (c0 d : Int) (l : List S58) (m : S58) (ok : Bool) (h : ok = true) : rulesEnd (evalB x c0 d l) (evalB x c0 d (l ++ [m])) d m.f2 ok = true := by
  unfold rulesEnd
  rw [if_pos h]
  unfold evalB
  by_cases ha : x.f1 = c0
  · rw [if_pos ha, if_pos ha]
    rcases evalR_more x d m l with h1 | ⟨h1, h2⟩
    · rw [if_pos h1]
    · by_cases q : evalR x d l = evalR x d (l ++ [m])
      · rw [if_pos q]
      · rw [if_neg q, if_pos h1, h2]; simp
  · rw [if_neg ha, if_neg ha, if_pos rfl]
theorem MeanRules : StatMeanRules.Stat := by
  intro t m x ht hm hx
  refine ⟨4000, ?_⟩
  unfold doorwardlaw18_MeanRules.f
  have al : ∀ a b : Nat, doorwardlaw18_MeanRules.j0 4000 true t.f0 t.f1 t.f2 m.f0 m.f1.f0 m.f1.f1 m.f1.f2 m.f1.f3 m.f1.f4 m.f1.f5 m.f2 x.f0 x.f1 x.f2 x.f3.f0 x.f3.f1 x.f3.f2 x.f3.f3 x.f3.f4 x.f3.f5 = some true ∨ a = b := by
    intro a b
    left
    simp only [doorwardlaw18_MeanRules.j0]
    rw [if_pos trivial, alive_f 3999 (by omega), Option.bind_some]
  have al' := (al 0 1).resolve_right (by decide)
  rw [few_f _ _ _ 4000 (by omega), Option.bind_some]
  by_cases h : fewB t.f2 = true
  · rw [if_pos h]
    by_cases h60 : m.f0.length ≤ 60
    · rw [if_neg (by omega), many_f m.f1 100 (by omega) (by omega), Option.bind_some]
      by_cases hn : nodes m.f1 ≤ 100
      · rw [decide_eq_false (by simp only [Int.reduceToNat]; omega)]
        unfold fewB at h
        rw [Bool.and_eq_true, decide_eq_true_eq] at h
        have hE1 := eval_f x t.f0 t.f1 t.f2 (by omega) h.2 3999 (by omega)
        have hall : (t.f2 ++ [m]).all fewR = true := by
          rw [List.all_append, h.2, Bool.true_and, List.all_cons, List.all_nil, Bool.and_true]
          unfold fewR
          rw [decide_eq_true h60, decide_eq_true hn]; rfl
        have hE2 := eval_f x t.f0 t.f1 (t.f2 ++ [m]) (by rw [List.length_append, List.length_singleton]; omega) hall 3999 (by omega)
        have em : (⟨m.f0, ⟨m.f1.f0, m.f1.f1, m.f1.f2, m.f1.f3, m.f1.f4, m.f1.f5⟩, m.f2⟩ : S58) = m := by
          rw [eta46]
        simp only [doorwardlaw18_MeanRules.j0, if_false, Bool.false_eq_true]
        rw [hE1, em]
        simp only [Option.bind_some, List.nil_append, List.length_nil, List.length_singleton, Nat.zero_add]
        rw [if_pos (by omega), if_pos (by omega), hE2, Option.bind_some]
        have hmem := evalR_mem x t.f1 t.f2
        have hend := end_ok x t.f0 t.f1 t.f2 m
        have loop := fun ok => rules_loop (evalB x t.f0 t.f1 t.f2) (evalB x t.f0 t.f1 (t.f2 ++ [m])) t.f0 t.f1 t.f2 t.f2 m.f0 m.f1.f0 m.f1.f1 m.f1.f2 m.f1.f3 m.f1.f4 m.f1.f5 m.f2 (by omega) t.f2.length 0 (by omega) (by omega) 3998 ok (by omega)
        simp only [doorwardlaw18_MeanRules.j1]
        by_cases q1 : evalB x t.f0 t.f1 t.f2 = t.f1
        · rw [if_pos q1]
          exact (loop true).trans (congrArg some (hend _ rfl))
        · rw [if_neg q1]
          by_cases q2 : x.f1 = t.f0
          · rw [if_pos q2]
            refine (loop false).trans (congrArg some (hend _ ?_))
            have e : evalB x t.f0 t.f1 t.f2 = evalR x t.f1 t.f2 := by unfold evalB; rw [if_pos q2]
            rw [Bool.false_or, List.drop_zero, e]
            rw [e] at q1
            exact hmem.resolve_left q1
          · rw [if_neg q2]
            refine (loop _).trans (congrArg some (hend _ ?_))
            have e : evalB x t.f0 t.f1 t.f2 = 2147483648 := by unfold evalB; rw [if_neg q2]
            rw [e]; rfl
      · rw [decide_eq_true (by simp only [Int.reduceToNat]; omega)]; exact al'
    · rw [if_pos (by omega)]; exact al'
  · rw [if_neg h]; exact al'
end Go.Proofs.Ytoeklekjhaigoaa.Pure
end
section
namespace Go.Proofs.Ytoeklekjhaigoaa.meanRules
open Go.ChangeShapes Go.WideShapes Go.ChangeAt Go.RowKit Go.Proofs.Ytoeklekjhaigoaa.Open Go.Proofs.Ytoeklekjhaigoaa.StatMeanRules Go.Proofs.YtoeklekjhaigoaaW.PrintWords Go.Proofs.Ytoeklekjhaigoaa.PMeanRules Go.Proofs.Ytoeklekjhaigoaa.Le Go.Proofs.Ytoeklekjhaigoaa.C1 Go.Proofs.Ytoeklekjhaigoaa.C2 Go.Proofs.Ytoeklekjhaigoaa.HAct Go.Proofs.Ytoeklekjhaigoaa.W0 Go.Proofs.Ytoeklekjhaigoaa.HFrom Go.Proofs.Ytoeklekjhaigoaa.W1 Go.Proofs.Ytoeklekjhaigoaa.R01 Go.Proofs.Ytoeklekjhaigoaa.HPack Go.Proofs.Ytoeklekjhaigoaa.HUnpack Go.Proofs.Ytoeklekjhaigoaa.HRefPack Go.Proofs.Ytoeklekjhaigoaa.M0 Go.Proofs.Ytoeklekjhaigoaa.HMany Go.Proofs.Ytoeklekjhaigoaa.HCount Go.Proofs.Ytoeklekjhaigoaa.M1 Go.Proofs.Ytoeklekjhaigoaa.HMean Go.Proofs.Ytoeklekjhaigoaa.M2 Go.Proofs.Ytoeklekjhaigoaa.K49 Go.Proofs.Ytoeklekjhaigoaa.WCond Go.Proofs.Ytoeklekjhaigoaa.K56
open Go.ChangeMaps (open_string shut_string)
set_option linter.unusedVariables false
open Go.Proofs.Ytoeklekjhaigoaa.Order (own laidOut)
open Go.Proofs.Ytoeklekjhaigoaa
set_option maxRecDepth 100000 in
set_option maxHeartbeats 1000000 in
theorem lifted (os : Os) (started : os.Started) (H : Type) (enc : TypeId × Value → H) :
    ReturnsInHanded {} Try.checked os 10 .any (Rows.meanRulesSpec.pre6 enc Try.prog Try.f10 Rows.meanRulesRow.domain false) (Rows.meanRulesSpec.post enc Try.prog Try.f10 false true false false) := by
  refine returnsInHanded_of_change_sized (C := Try.checked) own started (by kernel_rfl) Try.func10
    (ChangeSpec.witness6 (enc := enc) (C := Try.checked) false ⟨#[], #[.agg #[(.int .u32 0), (.int .u32 0), (.slice none 0 0)], .agg #[(.slice none 0 0), (.int .i64 0), (.slice none 0 0), (.int .i64 0), (.int .u64 0), (.string ByteArray.empty), (.int .u64 0), (.int .u32 0)], .agg #[(.int .u32 0), (.int .u32 0), (.int .u64 0), (.int .u64 0), (.int .u64 0), (.int .u64 0), (.int .u64 0), (.int .u64 0), (.int .u64 0)]], []⟩ 20 (by kernel_rfl) (by kernel_rfl) (by kernel_rfl) (by kernel_rfl)) ?_
  intro W base args ds gs before hval0 hW hcnd hsz0 _
  have hsz : (DataW.weightsEach Try.prog (Try.f10.params.toList ++ Rows.meanRulesSpec.plain.varTypes Try.prog) (ds ++ gs)).all (· ≤ reachBytes) = true := hsz0
  have hval : ∀ (j : Nat) t v, Try.f10.params[j]? = some t → args[j]? = some v → Value.okWide Try.prog W .any base t v := hval0
  have hW' := hW
  obtain ⟨p, q, hA0, hV, rfl, hfz, hnd⟩ := hW
  have hA : DataW.TrodAll enc Try.prog W 0 (fun _ => true) true Try.f10.params.toList args.toList ds p := hA0
  rw [Try.params10] at hA hval hsz
  obtain ⟨v0, vs0, d0, ds0, p0, q0, hargs, rfl, rfl, h0, r0⟩ := trodAll_cons hA
  obtain ⟨v1, vs1, d1, ds1, p1, q1, rfl, rfl, rfl, h1, r1⟩ := trodAll_cons r0
  obtain ⟨v2, vs2, d2, ds2, p2, q2, rfl, rfl, rfl, h2, r2⟩ := trodAll_cons r1
  obtain ⟨rfl, rfl, rfl⟩ := trodAll_nil r2
  obtain rfl : args = #[v0, v1, v2] := by cases args; simp_all
  obtain ⟨rfl, rfl⟩ := trodVars_none hV
  have k0_ := h0
  have lt0 : ∀ x ∈ p0, x.block < W.heap.size := by obtain ⟨m, hm⟩ := k0_; exact DataW.trod_lt m _ _ _ hm
  obtain ⟨cs0, x0, rfl, hx0, hq0⟩ := agg_of Try.underlying56 (hval 0 56 v0 rfl rfl) opens56 h0
  obtain ⟨A0_2, c0_2, ho0, hl0_2, hg0_2⟩ := k56_open hx0
  obtain rfl : cs0 = #[.int .u32 x0.f0, .int .u32 x0.f1, .slice A0_2 x0.f2.length c0_2] := Array.ext' ho0
  have k1_ := h1
  have lt1 : ∀ x ∈ p1, x.block < W.heap.size := by obtain ⟨m, hm⟩ := k1_; exact DataW.trod_lt m _ _ _ hm
  obtain ⟨cs1, x1, rfl, hx1, hq1⟩ := agg_of Try.underlying58 (hval 1 58 v1 rfl rfl) opens58 h1
  obtain ⟨A1_0, c1_0, A1_2, c1_2, ho1, hl1_0, hg1_0, hl1_2, hg1_2⟩ := k58_open hx1
  obtain rfl : cs1 = #[.slice A1_0 x1.f0.length c1_0, .int .i64 x1.f1.f0, .slice A1_2 x1.f1.f1.length c1_2, .int .i64 x1.f1.f2, .int .u64 x1.f1.f3, .string x1.f1.f4, .int .u64 x1.f1.f5, .int .u32 x1.f2] := Array.ext' ho1
  have k2_ := h2
  have lt2 : ∀ x ∈ p2, x.block < W.heap.size := by obtain ⟨m, hm⟩ := k2_; exact DataW.trod_lt m _ _ _ hm
  obtain ⟨cs2, x2, rfl, hx2, hq2⟩ := agg_of Try.underlying49 (hval 2 49 v2 rfl rfl) opens49 h2
  obtain ho2 := k49_open hx2
  obtain rfl : cs2 = #[.int .u32 x2.f0, .int .u32 x2.f1, .int .u64 x2.f2, .int .u64 x2.f3.f0, .int .u64 x2.f3.f1, .int .u64 x2.f3.f2, .int .u64 x2.f3.f3, .int .u64 x2.f3.f4, .int .u64 x2.f3.f5] := Array.ext' ho2
  clear hA0 hval0 hsz0 hsz
  obtain ⟨k, hk⟩ := Pure.MeanRules x0 x1 x2 hq0 hq1 hq2
  refine (doorwardlaw18_MeanRules.calls (k := k) (P0_2_ := fun k_ => k_ < W.heap.size) (P1_0_ := fun k_ => k_ < W.heap.size) (P1_2_ := fun k_ => k_ < W.heap.size) (hs0_2 := Kd.V_mk hl0_2 (Kd.C_F k58_heap hg0_2)) (hs1_0 := Kd.V_mk hl1_0 (Kd.C_F (Kd.heap_int .u32) hg1_0)) (hs1_2 := Kd.V_mk hl1_2 (Kd.C_F k46_heap hg1_2)) (r := true) (w := W) (h := hk)).mono ?_
  rintro e W' ⟨rfl, bel0⟩
  have bel := bel0
  exact ⟨_, rfl, _, _, _, [], _, [], hW', trodAll_mk1 (shut_bool Try.underlying4 _), (trodAll_cons_mk (Below.trod laidOut (by kernel_rfl) (of_decide_eq_true (by kernel_rfl)) k0_ bel lt0) (trodAll_cons_mk (Below.trod laidOut (by kernel_rfl) (of_decide_eq_true (by kernel_rfl)) k1_ bel lt1) (trodAll_cons_mk (Below.trod laidOut (by kernel_rfl) (of_decide_eq_true (by kernel_rfl)) k2_ bel lt2) trodAll_mk0))), rfl, bel.frame _, fun h => by cases h⟩
set_option maxHeartbeats 4000000 in
theorem facts : joinedFacts Try.prog 10 Try.f10 Rows.meanRulesSpec Rows.meanRulesRow = true := by
  unfold joinedFacts
  repeat' (with_reducible refine (Bool.and_eq_true_iff).mpr ⟨?_, ?_⟩)
  all_goals first | (with_reducible exact Order.laidOut) | (with_reducible exact Order.mapsRowed) | (with_reducible exact Order.noStops) | (with_reducible exact Order.noKnobs) | (with_reducible exact Order.enter) | (with_reducible exact Order.heard) | (rw [Order.makes]; rfl) | (rw [Order.lifts]; rfl) | (as_aux_lemma => kernel_rfl)
theorem named : Try.prog.funcNamed "doorward/doorwardlaw18.MeanRules" = some 10 := by kernel_rfl
theorem inst : Try.f10.isInstance Try.prog Rows.meanRulesRow.origin Rows.meanRulesRow.targs := of_decide_eq_true (by kernel_rfl)
theorem wrap : Try.f10.isWrapper Try.prog Rows.meanRulesRow.wrapper Rows.meanRulesRow.mainSum := by unfold Func.isWrapper; first | (rw [if_pos (by decide +kernel)]; kernel_rfl) | (rw [if_neg (by decide +kernel)]; exact ⟨rfl, rfl⟩)
theorem over : Rows.meanRulesRow.holds Try.pinned (OpenSpec.ofChange Rows.meanRulesSpec) :=
  OpenClaim.holds_of_wide 10 Try.f10 rfl rfl rfl rfl rfl rfl rfl ⟨rfl, rfl, rfl, rfl, rfl⟩ rfl rfl rfl rfl rfl named Try.func10 facts inst wrap
    (fun os started H enc _ => lifted os started H enc)
theorem proved : Rows.MeanRulesSaid := over
#print axioms proved
end Go.Proofs.Ytoeklekjhaigoaa.meanRules
namespace Go.Proofs.Ytoeklekjhaigoaa
/-- The row, under a short name, for the claim. -/
theorem meanRules_holds : Rows.MeanRulesSaid := meanRules.proved
end Go.Proofs.Ytoeklekjhaigoaa
end
