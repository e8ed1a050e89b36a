/- WordJoins: steps that answer are the answer, whatever stands behind them; steps that end at their end go on with those behind. -/
import Derived.Test.YtoeklekjhaigoaaStatWordJoins
import Derived.Test.YtoeklekjhaigoaaQWalk
namespace Go.Proofs.Ytoeklekjhaigoaa.Pure
open Go.RowKit Go.Proofs.Ytoeklekjhaigoaa.StatWordJoins Go.Proofs.YtoeklekjhaigoaaW.PrintWords Go.Proofs.YtoeklekjhaigoaaW.PrintLast Go.Proofs.YtoeklekjhaigoaaW.PrintMore Go.Proofs.Ytoeklekjhaigoaa.PWordJoins Go.Proofs.Ytoeklekjhaigoaa.QLe Go.Proofs.Ytoeklekjhaigoaa.QNum Go.Proofs.Ytoeklekjhaigoaa.WWalk Go.Proofs.Ytoeklekjhaigoaa.QWalk Go.Proofs.Ytoeklekjhaigoaa.W0 Go.Proofs.Ytoeklekjhaigoaa.W1
theorem alive19j (k : Nat) (hk : 30 ≤ k) : doorwardlaw19_alive.f k = some true := by
  unfold doorwardlaw19_alive.f
  rw [if_pos (by decide), walk_f _ [] (by simp) (fun o ho => absurd ho (List.not_mem_nil)) k (by simpa using hk)]
  have hz : (strOfNums (List.replicate 64 0)).size = 64 := by rw [sON_size, List.length_replicate]
  unfold walkR
  rw [if_pos hz]
  rfl
def okK (l : List S40) : Prop := ∀ o ∈ l, 0 ≤ o.f1 ∧ o.f1 < 4294967296
theorem okK_append {a b : List S40} (h : okK a) (h' : okK b) : okK (a ++ b) := fun o ho => (List.mem_append.1 ho).elim (h o) (h' o)
theorem told_R (l m : List S40) (s : ByteArray) (h : (walkR l s).told = true ∨ (walkR l s).wrong = true) : walkR (l ++ m) s = walkR l s := by
  unfold walkR at h ⊢
  split
  · rename_i hs; rw [if_pos hs] at h; exact wk_told _ _ _ _ h
  · rfl
theorem joins_f (l m : List S40) (s : ByteArray) (hl : l.length ≤ 100) (hm : m.length ≤ 100) (kl : okK l) (km : okK m) (k : Nat) (hk : 1000 ≤ k) : doorwardlaw19_WordJoins.j0 (k + 1 + 1) l m s = some true := by
  simp only [doorwardlaw19_WordJoins.j0]
  have hb : (l ++ m).length ≤ 200 := by rw [List.length_append]; omega
  rw [walk_f s l (by omega) kl (k + 1) (by omega)]
  simp only [Option.bind_some, List.nil_append, List.length_nil, Nat.zero_add]
  rw [if_pos (by omega), if_pos (by omega), walk_f s (l ++ m) (by omega) (okK_append kl km) (k + 1) (by omega)]
  simp only [Option.bind_some, tup]
  have ht := told_R l m s
  by_cases h1 : (walkR l s).told = true ∨ (walkR l s).wrong = true
  · rw [ht h1]
    have e1 : ∀ b, b = true → doorwardlaw19_WordJoins.j1 (k + 1) l s b (walkR l s).lb (walkR l s).ans (walkR l s).told (walkR l s).wrong (walkR l s).lb (walkR l s).ans (walkR l s).told (walkR l s).wrong = some true := by
      rintro b rfl
      simp only [doorwardlaw19_WordJoins.j1]
      rw [if_pos trivial, alive19j k (by omega)]
      simp
    split
    · exact e1 true rfl
    · rename_i h2
      exact e1 _ (h1.resolve_left h2)
  · have f1 : (walkR l s).told = false := by simpa using fun h => h1 (Or.inl h)
    have f2 : (walkR l s).wrong = false := by simpa using fun h => h1 (Or.inr h)
    rw [if_neg (by rw [f1]; decide)]
    have hs : s.size = 64 := by
      rcases Nat.decEq s.size 64 with h | h
      · unfold walkR at f2; rw [if_neg h] at f2; cases f2
      · exact h
    have ew : ∀ x, walkR x s = wk (wdS s) x (.run 0) := fun x => by unfold walkR; rw [if_pos hs]
    rw [ew] at f1 f2
    simp only [doorwardlaw19_WordJoins.j1]
    rw [ew l, f2, if_neg (by decide)]
    simp only [Option.bind_some, List.nil_append, List.length_nil, Nat.zero_add]
    rw [if_pos (by omega)]
    have shape := wk_shape (wdS s) l (.run 0) f1 f2
    by_cases h3 : (wk (wdS s) l (.run 0)).lb = -1
    · have k8 : okK (l ++ [(⟨8, 5, 0, 0⟩ : S40)]) := okK_append kl (by intro o ho; rw [List.mem_singleton.1 ho]; exact ⟨by decide, by decide⟩)
      rw [if_pos h3, if_pos (by omega), walk_f s _ (by rw [List.length_append]; simp; omega) k8 k (by rw [List.length_append]; simp; omega), alive19j k (by omega)]
      simp only [Option.bind_some, tup, if_true, ew]
      rcases wk_ret (wdS s) 5 0 0 l (.run 0) f1 f2 with h | h
      · rw [h]; rfl
      · rw [h]
        split
        · rfl
        · simp [f1, f2]
    · obtain ⟨a, ha⟩ := wk_label (wdS s) 0 0 [(⟨8, 6, 0, 0⟩ : S40)] l (.run 0) f1 f2 h3
      have k8 : okK (l ++ [(⟨6, 0, (wk (wdS s) l (.run 0)).lb, 0⟩ : S40), ⟨8, 6, 0, 0⟩]) := okK_append kl (by
        intro o ho
        rcases List.mem_cons.1 ho with rfl | ho
        · exact (show (0 : Int) ≤ 0 ∧ (0 : Int) < 4294967296 by decide)
        · rw [List.mem_singleton.1 ho]; exact (show (0 : Int) ≤ 6 ∧ (6 : Int) < 4294967296 by decide))
      rw [if_neg h3, if_pos (by simp; omega), alive19j k (by omega)]
      simp only [Option.bind_some, if_true]
      rw [walk_f s _ (by rw [List.length_append]; simp; omega) k8 k (by rw [List.length_append]; simp; omega)]
      simp only [Option.bind_some, tup, ew]
      rw [ha]; rfl
theorem WordJoins : StatWordJoins.Stat := by
  intro l m s _ _ hl _ _ hm hs
  refine ⟨2000, ?_⟩
  unfold doorwardlaw19_WordJoins.f
  have e1 : mn (l.length : Int) 100 = ((min l.length 100 : Nat) : Int) := by unfold mn; split <;> omega
  have e2 : mn (m.length : Int) 100 = ((min m.length 100 : Nat) : Int) := by unfold mn; split <;> omega
  rw [e1, if_pos (by omega), if_pos (by omega)]
  simp only [Option.bind_some]
  rw [e2, if_pos (by omega), if_pos (by omega)]
  simp only [Int.toNat_natCast]
  have q1 : okK (l.take (min l.length 100)) := fun o ho => wf_u32 (hl o (List.mem_of_mem_take ho)).2.1
  have q2 : okK (m.take (min m.length 100)) := fun o ho => wf_u32 (hm o (List.mem_of_mem_take ho)).2.1
  have z1 : (l.take (min l.length 100)).length ≤ 100 := by rw [List.length_take]; omega
  have z2 : (m.take (min m.length 100)).length ≤ 100 := by rw [List.length_take]; omega
  split
  · rw [if_pos (by decide), if_pos (by omega)]
    exact joins_f _ _ _ z1 z2 q1 q2 1998 (by omega)
  · exact joins_f _ _ _ z1 z2 q1 q2 1998 (by omega)
end Go.Proofs.Ytoeklekjhaigoaa.Pure
