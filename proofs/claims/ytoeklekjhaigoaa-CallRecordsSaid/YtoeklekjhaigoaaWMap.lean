/- A map of a call's own, with any values: what is looked up, what a store leaves. Over any program. -/
import Derived.Maps.OwnSet
import Derived.StringKeys
namespace Go.Proofs.Ytoeklekjhaigoaa.WMap
open Go.RowKit
set_option linter.unusedVariables false
/-- Block b of w is a map of at most n entries; at key k it has L k. -/
def MapV (P : Program) (K : TypeId) (w : World) (b n : Nat) (L : Lit → Option Value) : Prop :=
  ∃ D : DataW Value, w.ownsMap P K (fun v => some (.held v, [])) b n D ∧ Maps.IsMap D ∧ ∀ (k : Lit) (z : DataW Value), D.atKey k z = match L k with | some v => .held v | none => z
section
variable {P : Program} {K : TypeId} {w : World} {b n : Nat} {L : Lit → Option Value}
theorem MapV.lt (h : MapV P K w b n L) : b < w.heap.size := by obtain ⟨D, h, _⟩ := h; exact h.lt
theorem MapV.kept {w' : World} (h : MapV P K w b n L) (he : w'.heap[b]? = w.heap[b]?) : MapV P K w' b n L := by
  obtain ⟨D, ⟨es, clock, hb, F, hs, hD⟩, h2⟩ := h
  exact ⟨D, ⟨es, clock, he.trans hb, F, hs, hD⟩, h2⟩
theorem MapV.made (P : Program) (K : TypeId) (w : World) : MapV P K (w.alloc (.map #[] 0)) w.heap.size 0 (fun _ => none) := ⟨.map [], World.ownsMap_made _ _ _ _, Maps.isMap_empty, fun _ _ => rfl⟩
theorem MapV.look {t e : TypeId} {z : Value} (h : MapV P K w b n L) (hK : Maps.Keyed P K) (ht : P.underlying t = some (.map K e)) (hz : (zeroValue e).run P w = .ok z w) {key : Value} {kl : Lit} (hkey : keyOf P K key = some kl) :
    (Instr.lookup t (.map (some b)) key true).run P w = .ok (.tuple #[(L kl).getD z, .bool (L kl).isSome]) w := by
  obtain ⟨D, ho, hm, hat⟩ := h
  obtain ⟨v, ps, hrun, hv⟩ := ho.look_ok (t := t) (e := e) hK ht hz (zd := .held z) (zp := []) rfl hkey
  rw [hrun]
  have e1 : Maps.has D kl = (L kl).isSome := by
    cases hL : L kl with
    | none => exact Maps.has_false_of_atKey (fun z => by rw [hat, hL])
    | some x => exact Maps.has_true_of_atKey (y := .held x) (fun z => by rw [hat, hL])
  have e2 : v = (L kl).getD z := by
    have hv' : (some (DataW.held v, []) : Option (DataW Value × List MemPlace)) = some (D.atKey kl (.held z), ps) := hv
    rw [hat] at hv'
    cases hL : L kl with
    | none => rw [hL] at hv'; injection hv' with hv'; injection hv' with h1 _; injection h1
    | some x => rw [hL] at hv'; injection hv' with hv'; injection hv' with h1 _; injection h1
  rw [e1, e2]
theorem MapV.store {t e : TypeId} (h : MapV P K w b n L) (hK : Maps.Keyed P K) (ht : P.underlying t = some (.map K e)) (hn : n < 1000000) {key val : Value} {kl : Lit} (hkey : keyOf P K key = some kl) (hk : WideAt.IsKeyLit kl) :
    ∃ w', (Instr.mapUpdate t (.map (some b)) key val).run P w = .ok () w' ∧ MapV P K w' b (n + 1) (fun x => if x.sameKey kl = true then some val else L x) ∧ w.grownBy w' (some b) := by
  obtain ⟨D, ho, hm, hat⟩ := h
  obtain ⟨w', hrun, ho', hg⟩ := ho.update (t := t) (e := e) hK ht (by unfold maxLen; omega) hkey (val := val) (d := .held val) (ps := []) rfl
  refine ⟨w', hrun, ⟨_, ho', hm.put _ _, fun x z => ?_⟩, hg⟩
  show _ = match (if x.sameKey kl = true then some val else L x) with | some v => _ | none => _
  by_cases hx : x = kl
  · subst hx
    rw [if_pos (WideAt.sameKey_self hk), Maps.atKey_put_same hm hk]
  · rw [if_neg (fun h => hx ((WideAt.sameKey_iff hk).1 h)), Maps.atKey_put_other hx, hat]
end
end Go.Proofs.Ytoeklekjhaigoaa.WMap
