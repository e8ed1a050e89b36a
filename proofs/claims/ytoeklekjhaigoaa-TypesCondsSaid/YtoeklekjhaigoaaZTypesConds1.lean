/- TypesConds: which conditions may be, and how many tests one has, is as the document says. -/
import Derived.Test.YtoeklekjhaigoaaZTypesConds0
section
namespace Go.Proofs.Ytoeklekjhaigoaa.HMany
open Go.Proofs.Ytoeklekjhaigoaa.Al Go.RowKit Go.Proofs.YtoeklekjhaigoaaW.PrintWords Go.Proofs.YtoeklekjhaigoaaW.PrintLast Go.Proofs.YtoeklekjhaigoaaW.PrintMore Go.Proofs.Ytoeklekjhaigoaa.M0 Go.Proofs.Ytoeklekjhaigoaa.QCond
set_option linter.unusedVariables false
set_option linter.unusedSimpArgs false
set_option maxRecDepth 100000
attribute [local go_sem] max2_int min2_int max_two min_two
theorem hInfo46 : (Try.prog.info? 46).map (fun i => (i.zero, i.size, i.bytes)) = some (some (.agg #[(.int .i64 0), (.slice none 0 0), (.int .i64 0), (.int .u64 0), (.string ⟨#[]⟩), (.int .u64 0)]), 6, 72) := by kernel_rfl
abbrev cells46 (c : S46) (A : Option Addr) (n : Nat) : List Value := [.int .i64 c.f0, .slice A c.f1.length n, .int .i64 c.f2, .int .u64 c.f3, .string c.f4, .int .u64 c.f5]
/-- A condition that is read, as an element that may stand in a row: it leads to elder blocks. -/
theorem elder46 {w : World} {c : S46} {A : Option Addr} {n : Nat} (hC : Kd.C k46 w A c.f1.length c.f1) (hn : c.f1.length ≤ n) : Kd.FK k46 w (fun k => k < w.heap.size) c (cells46 c A n) :=
  k46_mkF w _ c hn (Kd.C_F k46_heap hC)
theorem reps_one46 {W : World} {ok : Nat → Prop} {c : S46} {A : Option Addr} {n : Nat} (h : Kd.FK k46 W ok c (cells46 c A n)) : Reps (Kd.FK k46 W ok) k46.sz [c] (cells46 c A n) := by
  have := Reps.snoc (Reps.none (Kd.FK k46 W ok) k46.sz) h rfl
  simpa using this
/-- The queue. -/
structure Qu (w wr : World) (v : Value) (xs : List S46) : Prop where
  N : Kd.N k46 46 wr w.heap.size (fun _ => True) v xs
  B : Below w.heap.size w wr
theorem nodesL_take (l : List S46) (d : Nat) (h : d < l.length) : nodesL (l.drop d) = nodes (rd_T46 l d) + nodesL (l.drop (d + 1)) := by
  rw [List.drop_eq_getElem_cons h, nodesL]
  unfold rd_T46; simp [List.getD, h]
def cutQ (L : Nat) (xs : List S46) : List S46 := xs.take (L + 1)
theorem cut_len (L : Nat) (xs : List S46) : (cutQ L xs).length = min (L + 1) xs.length := by unfold cutQ; rw [List.length_take]
theorem cut_put (L : Nat) (xs ks ys : List S46) (k : Nat) (hk : k < ks.length) (h : cutQ L (xs ++ ks.take k) = ys) (hl : ys.length ≤ L) : cutQ L (xs ++ ks.take (k + 1)) = ys ++ [rd_T46 ks k] := by
  have e := cut_len L (xs ++ ks.take k)
  rw [h] at e
  have hy : ys = xs ++ ks.take k := by rw [← h]; unfold cutQ; rw [List.take_of_length_le]; omega
  have e2 : ks.take (k + 1) = ks.take k ++ [rd_T46 ks k] := by
    rw [List.take_succ_eq_append_getElem hk]; unfold rd_T46; simp [List.getD, hk]
  rw [e2, ← List.append_assoc, ← hy]
  unfold cutQ; rw [List.take_of_length_le]; rw [List.length_append, List.length_singleton]; omega
theorem cut_stay (L : Nat) (xs ks ys : List S46) (k : Nat) (hk : k < ks.length) (h : cutQ L (xs ++ ks.take k) = ys) (hl : L < ys.length) : cutQ L (xs ++ ks.take (k + 1)) = ys := by
  have e := cut_len L (xs ++ ks.take k)
  rw [h] at e
  have e2 : ks.take (k + 1) = ks.take k ++ [rd_T46 ks k] := by
    rw [List.take_succ_eq_append_getElem hk]; unfold rd_T46; simp [List.getD, hk]
  rw [e2, ← List.append_assoc, ← h]
  unfold cutQ; rw [List.take_append_of_le_length (by omega)]
structure Inv (c : S46) (L : Nat) (xs : List S46) (d : Nat) : Prop where
  h1 : xs.length ≤ L + 1
  h2 : 1 ≤ xs.length
  h3 : d ≤ xs.length
  h4 : xs.length ≤ L → d + nodesL (xs.drop d) = nodes c
  h5 : L < xs.length → L + 1 ≤ nodes c
theorem Inv.start (c : S46) (L : Nat) (hL : 1 ≤ L) : Inv c L [c] 0 :=
  ⟨by simp, by simp, by simp, fun _ => by rw [List.drop_zero, nodesL, nodesL]; omega, fun h => by simp at h; omega⟩
theorem Inv.next {c : S46} {L : Nat} {xs ys ks : List S46} {d : Nat} (h : Inv c L xs d) (hd : d < xs.length) (hl : xs.length ≤ L) (hk : (rd_T46 xs d).f1 = ks) (hy : cutQ L (xs ++ ks.take ks.length) = ys) : Inv c L ys (d + 1) := by
  rw [List.take_length] at hy
  have e := cut_len L (xs ++ ks)
  rw [hy, List.length_append] at e
  have e1 := h.h4 hl
  rw [nodesL_take xs d hd, nodes_eq, hk] at e1
  have e2 := len_nodes ks
  have e3 := len_nodes (xs.drop (d + 1))
  rw [List.length_drop] at e3
  refine ⟨by omega, by omega, by omega, fun g => ?_, fun g => by omega⟩
  have hy2 : ys = xs ++ ks := by rw [← hy]; unfold cutQ; rw [List.take_of_length_le]; rw [List.length_append]; omega
  rw [hy2, List.drop_append_of_le_length (by omega), nodesL_append]; omega
theorem Inv.done {c : S46} {L : Nat} {xs : List S46} {d : Nat} (h : Inv c L xs d) (hd : xs.length ≤ d ∨ L < xs.length) : xs.length = min (nodes c) (L + 1) := by
  by_cases hl : xs.length ≤ L
  · have e1 := h.h4 hl
    have : d = xs.length := by have := h.h3; omega
    rw [List.drop_eq_nil_of_le (by omega), nodesL] at e1; omega
  · have := h.h5 (by omega); have := h.h1; omega
theorem own_of (g n c k : Nat) : (some k ≠ (Value.slice (some ⟨g, 0, none⟩) n c).ownBlock) = (k ≠ g) := by simp [Value.ownBlock]
theorem atF46 {w : World} {ok : Nat → Prop} {A : Option Addr} {n : Nat} {xs : List S46} (h : Kd.F k46 w ok A n xs) (i : Int) (h0 : 0 ≤ i) (h1 : i < n) : ∃ ad A1 c1, A = some ad ∧ w.cell? (ad.add (i.toNat * 6)) = some (.int .i64 (rd_T46 xs i).f0) ∧ w.cell? ⟨(ad.add (i.toNat * 6)).block, (ad.add (i.toNat * 6)).off + 1, none⟩ = some (.slice A1 (rd_T46 xs i).f1.length c1) ∧ w.cell? ⟨(ad.add (i.toNat * 6)).block, (ad.add (i.toNat * 6)).off + 2, none⟩ = some (.int .i64 (rd_T46 xs i).f2) ∧ w.cell? ⟨(ad.add (i.toNat * 6)).block, (ad.add (i.toNat * 6)).off + 3, none⟩ = some (.int .u64 (rd_T46 xs i).f3) ∧ w.cell? ⟨(ad.add (i.toNat * 6)).block, (ad.add (i.toNat * 6)).off + 4, none⟩ = some (.string (rd_T46 xs i).f4) ∧ w.cell? ⟨(ad.add (i.toNat * 6)).block, (ad.add (i.toNat * 6)).off + 5, none⟩ = some (.int .u64 (rd_T46 xs i).f5) ∧ (rd_T46 xs i).f1.length ≤ c1 ∧ Kd.FK k46 w ok (rd_T46 xs i) (cells46 (rd_T46 xs i) A1 c1) := by
  obtain ⟨ad, c, e, _, hK, hc0, _⟩ := Kd.F_get h z46 i h0 h1
  have hc : ∀ j u, c[j]? = some u → w.cell? (ad.add (i.toNat * 6 + j)) = some u := hc0
  obtain ⟨A1, c1, rfl, l1, g1⟩ := k46_openF hK
  exact ⟨ad, A1, c1, e, hc 0 _ rfl, by rw [← add_field _ _ 1 (by omega)]; exact hc 1 _ rfl, by rw [← add_field _ _ 2 (by omega)]; exact hc 2 _ rfl, by rw [← add_field _ _ 3 (by omega)]; exact hc 3 _ rfl, by rw [← add_field _ _ 4 (by omega)]; exact hc 4 _ rfl, by rw [← add_field _ _ 5 (by omega)]; exact hc 5 _ rfl, l1, hK⟩
set_option maxHeartbeats 2000000 in
theorem many_any (c : S46) (A1 : Option Addr) (c1 : Nat) (L : Nat) (w : World) (hC : Kd.C k46 w A1 c.f1.length c.f1) (hc1 : c.f1.length ≤ c1) (hL : 1 ≤ L) (hL2 : L ≤ 1000) :
    Calls Try.prog 43 #[.agg #[.int .i64 c.f0, .slice A1 c.f1.length c1, .int .i64 c.f2, .int .u64 c.f3, .string c.f4, .int .u64 c.f5], .int .i64 (L : Int)] w fun e w' => e = .returned (.int .i64 ((min (nodes c) (L + 1) : Nat) : Int)) ∧ Below w.heap.size w w' := by
  have hu46 := Try.underlying46
  have hFK := elder46 hC hc1
  have HB0 := amk (bal (Below.refl w.heap.size w) (.cells #[.int .i64 c.f0, .slice A1 c.f1.length c1, .int .i64 c.f2, .int .u64 c.f3, .string c.f4, .int .u64 c.f5] 46))
  have HF0 := amk (Kd.FK_below hFK HB0.out)
  have HS := amk (Inv.start c L hL)
  clear hC hFK
  go_enter Try.func43, Try.ntmps43
  go_wp2_with ((with_reducible refine gate_dst (N := 10) rfl ?_); refine Kd.N_lit k46 w.heap.size 46 ?hg (N' := 10) ?hd (xs := [c]) (inner := cells46 c A1 c1) (ok := fun _ => True) (okp := fun k => k < w.heap.size) ?hr ?hp (fun _ _ => trivial) trivial HB0.out HB0.out.size (by simp) ?_; (case hd => rfl); (case hg => rfl); (case hr => first | (go_simp; done) | (go_simp; rfl)); (case hp => exact reps_one46 HF0.out); intro v1 w1 hN hb hg hat; have HQ := amk (Qu.mk hN hb); clear hN hb hg hat)
  go_loopw [5, 6] (fun v i wr => ∃ (xs : List S46) (d : Nat), i = .int .i64 d ∧ Aside0 (Qu w wr v xs) ∧ Aside0 (Inv c L xs d)) (fun _ i _ => L + 2 - (intOf i).toNat)
  case atStart => exact ⟨[c], 0, rfl, HQ, HS⟩
  case round =>
    clear HQ HS HF0
    obtain ⟨xs, d, rfl, hq, hi⟩ := hrel
    have hi1 := hi.out.h1
    have hi2 := hi.out.h2
    have hi3 := hi.out.h3
    obtain ⟨g, cap, rfl, hg, hgl, _⟩ := Kd.N_form hq.out.N (by omega)
    by_cases hlt : d < xs.length ∧ xs.length ≤ L
    · obtain ⟨hd, hl⟩ := hlt
      have d1 : decide ((d : Int) < (xs.length : Int)) = true := decide_eq_true (by omega)
      have d2 : decide ((xs.length : Int) ≤ (L : Int)) = true := decide_eq_true (by omega)
      obtain ⟨c', hcl, hFK, hcc, _⟩ := Kd.N_elem hq.out.N z46 (d : Int) (by omega) (by omega)
      obtain ⟨A', n', rfl, hn', hFk⟩ := k46_openF hFK
      have hx1 := hcc 1 _ rfl
      have hrd : xs.getD (d : Int).toNat z46 = rd_T46 xs (d : Int) := rfl
      rw [hrd] at hFK hn' hFk hx1
      simp only [Int.toNat_natCast] at hx1
      rw [show k46.sz = 6 from rfl] at hx1
      generalize hks : (rd_T46 xs (d : Int)).f1 = ks at *
      have HN := amk (fun ys (hy : cutQ L (xs ++ ks.take ks.length) = ys) => hi.out.next hd hl hks hy)
      have HF := amk (show Kd.F k46 wr (fun b => True ∧ some b ≠ (Value.slice (some ⟨g, 0, none⟩) xs.length cap).ownBlock) A' ks.length ks from Kd.F_mono hFk (fun b hb => ⟨trivial, by rw [own_of]; exact hb.2⟩))
      have HY := amk (show cutQ L (xs ++ ks.take 0) = xs from by rw [List.take_zero, List.append_nil]; unfold cutQ; rw [List.take_of_length_le (by omega)])
      have i0 : (0 : Int) ≤ (d : Int) := by omega
      have i1 : (d : Int) < (xs.length : Int) := by omega
      have HD := amk hi3
      have HL := amk hL2
      have hki := Kd.F_max hFk
      clear hks hFK hFk hcc hcl hrd hi hi1 hi2 hi3 hg hgl
      go_wp2
      generalize hv : Value.slice (some ⟨g, 0, none⟩) xs.length cap = v at *
      clear hv
      go_loopw [5, 29] (fun v2 j w2 => ∃ (k : Nat) (ys : List S46), k ≤ ks.length ∧ j = .int .i64 k ∧ Aside0 (cutQ L (xs ++ ks.take k) = ys) ∧ Aside0 (Qu w w2 v2 ys) ∧ Aside0 (Kd.F k46 w2 (fun b => True ∧ some b ≠ v2.ownBlock) A' ks.length ks)) (fun _ j _ => ks.length - (intOf j).toNat)
      case atStart => exact ⟨0, xs, Nat.zero_le _, rfl, HY, hq, HF⟩
      case round =>
        clear HF HY hq hx1
        obtain ⟨k, ys, hk, rfl, hy, hq, hf⟩ := hrel
        by_cases hkl : k < ks.length
        · have e1 : decide ((k : Int) < (ks.length : Int)) = true := decide_eq_true (by omega)
          obtain ⟨ad, Ax, nx, rfl, hx0, hx1, hx2, hx3, hx4, hx5, hnx, hFK⟩ := atF46 hf.out (k : Int) (by omega) (by omega)
          simp only [Int.toNat_natCast] at hx0 hx1 hx2 hx3 hx4 hx5
          have j0 : (0 : Int) ≤ (k : Int) := by omega
          have j1 : (k : Int) < (ks.length : Int) := by omega
          have jw : wrap64 ((k : Int) + 1) = (k : Int) + 1 := by unfold wrap64; omega
          obtain ⟨Ay, cy, rfl⟩ := Kd.N_slice hq.out.N
          by_cases hyl : ys.length ≤ L
          · have e2 : decide ((ys.length : Int) ≤ (L : Int)) = true := decide_eq_true (by omega)
            have HP := amk (cut_put L xs ks ys k hkl hy.out hyl)
            rw [show rd_T46 ks ((k : Nat) : Int) = rd_T46 ks (k : Int) from rfl] at HP
            generalize rd_T46 ks (k : Int) = x at *
            have HA := amk (bal hq.out.B (.cells #[.int .i64 x.f0, .slice Ax x.f1.length nx, .int .i64 x.f2, .int .u64 x.f3, .string x.f4, .int .u64 x.f5] 46))
            have HN1 := amk (Kd.N_alloc hq.out.N (.cells #[.int .i64 x.f0, .slice Ax x.f1.length nx, .int .i64 x.f2, .int .u64 x.f3, .string x.f4, .int .u64 x.f5] 46))
            have HK1 := amk (Kd.FK_below hFK (bal (Below.refl wr.heap.size wr) (.cells #[.int .i64 x.f0, .slice Ax x.f1.length nx, .int .i64 x.f2, .int .u64 x.f3, .string x.f4, .int .u64 x.f5] 46)))
            have HF1 := amk (Kd.F_alloc hf.out (.cells #[.int .i64 x.f0, .slice Ax x.f1.length nx, .int .i64 x.f2, .int .u64 x.f3, .string x.f4, .int .u64 x.f5] 46))
            clear hFK hy hq hf
            go_wp2_with (at_builtin; refine Kd.N_append k46 (w0 := w) w.heap.size rfl (.tmp 37) (.tmp 39) 44 46 _ 72 rfl Try.underlying44 hInfo46 rfl (by decide) (by decide) _ ys x (cells46 x Ax nx) (fun _ => True) _ rfl (by simp [Act.eval, Act.put]) HK1.out (fun _ hk => hk) (fun _ _ => trivial) HN1.out HA.out HA.out.size (by omega) ?_; intro v1 w1 hN1 hb1 hg1 hat1; have HQ1 := amk (Qu.mk hN1 hb1); have HF2 := amk (Kd.F_after HF1.out hg1 hat1); clear hN1 hb1 hg1 hat1)
            refine ⟨⟨k + 1, ys ++ [x], by omega, by rfl, ⟨HP.out⟩, HQ1, HF2⟩, ?_⟩
            simp [intOf]; omega
          · have e2 : decide ((ys.length : Int) ≤ (L : Int)) = false := decide_eq_false (by omega)
            have HP := amk (cut_stay L xs ks ys k hkl hy.out (by omega))
            generalize rd_T46 ks (k : Int) = x at *
            have HQ1 := amk (Qu.mk (Kd.N_alloc hq.out.N (.cells #[.int .i64 x.f0, .slice Ax x.f1.length nx, .int .i64 x.f2, .int .u64 x.f3, .string x.f4, .int .u64 x.f5] 46)) (bal hq.out.B _))
            have HF2 := amk (Kd.F_alloc hf.out (.cells #[.int .i64 x.f0, .slice Ax x.f1.length nx, .int .i64 x.f2, .int .u64 x.f3, .string x.f4, .int .u64 x.f5] 46))
            clear hFK hy hq hf
            go_wp2
            refine ⟨⟨k + 1, ys, by omega, by rfl, ⟨HP.out⟩, HQ1, HF2⟩, ?_⟩
            simp [intOf]; omega
        · obtain rfl : k = ks.length := by omega
          have e1 : decide ((ks.length : Int) < (ks.length : Int)) = false := decide_eq_false (by omega)
          have HI := amk (HN.out ys hy.out)
          have dw : wrap64 ((d : Int) + 1) = (d : Int) + 1 := by have := HD.out; have := HL.out; unfold wrap64; omega
          clear hy hf HN
          go_wp2
          refine ⟨⟨ys, d + 1, by rfl, hq, HI⟩, ?_⟩
          have := HD.out
          simp [intOf]; omega
    · have HE := amk (hi.out.done (by omega))
      have HB := amk hq.out.B
      clear hg hgl hq hi
      by_cases hd : d < xs.length
      · have d1 : decide ((d : Int) < (xs.length : Int)) = true := decide_eq_true (by omega)
        have d2 : decide ((xs.length : Int) ≤ (L : Int)) = false := decide_eq_false (by omega)
        go_wp2
        go_ret
        exact ⟨congrArg (fun n : Nat => Ending.returned (.int .i64 (n : Int))) HE.out, HB.out⟩
      · have d1 : decide ((d : Int) < (xs.length : Int)) = false := decide_eq_false (by omega)
        go_wp2
        go_ret
        exact ⟨congrArg (fun n : Nat => Ending.returned (.int .i64 (n : Int))) HE.out, HB.out⟩
def doorwardref15_Many.f (a0_0 : Int) (l0_1 : List (S46)) (a0_2 : Int) (a0_3 : Int) (a0_4 : ByteArray) (a0_5 : Int) (a1 : Int) : Option (Int) :=
  if 1 ≤ a1 ∧ a1 ≤ 1000 then some ((min (nodes ⟨a0_0, l0_1, a0_2, a0_3, a0_4, a0_5⟩) (a1.toNat + 1) : Nat) : Int) else none
theorem doorwardref15_Many.calls (a0_0 : Int) (A0_1 : Option Addr) (c0_1 : Nat) (l0_1 : List (S46)) (a0_2 : Int) (a0_3 : Int) (a0_4 : ByteArray) (a0_5 : Int) (a1 : Int) (r : Int) (w : World) (hr0_1 : Kd.C k46 w A0_1 l0_1.length l0_1) (hc0_1 : l0_1.length ≤ c0_1) (h : doorwardref15_Many.f a0_0 l0_1 a0_2 a0_3 a0_4 a0_5 a1 = some r) :
    Calls Try.prog 43 #[.agg #[.int .i64 a0_0, .slice A0_1 l0_1.length c0_1, .int .i64 a0_2, .int .u64 a0_3, .string a0_4, .int .u64 a0_5], .int .i64 a1] w fun e w' => e = .returned (.int .i64 r) ∧ Below w.heap.size w w' := by
  unfold doorwardref15_Many.f at h
  split at h
  · rename_i hc
    have h2 := many_any ⟨a0_0, l0_1, a0_2, a0_3, a0_4, a0_5⟩ A0_1 c0_1 a1.toNat w hr0_1 hc0_1 (by omega) (by omega)
    rw [show ((a1.toNat : Nat) : Int) = a1 by omega, Option.some.inj h] at h2
    exact h2
  · cases h
end Go.Proofs.Ytoeklekjhaigoaa.HMany
end
section
namespace Go.Proofs.Ytoeklekjhaigoaa.QMean
open Go.Proofs.Ytoeklekjhaigoaa.Al Go.RowKit Go.Proofs.YtoeklekjhaigoaaW.PrintWords Go.Proofs.YtoeklekjhaigoaaW.PrintLast Go.Proofs.YtoeklekjhaigoaaW.PrintMore Go.Proofs.Ytoeklekjhaigoaa.M0 Go.Proofs.Ytoeklekjhaigoaa.QCond
set_option linter.unusedVariables false
set_option linter.unusedSimpArgs false
theorem nodes_mem {l : List S46} {c : S46} (h : c ∈ l) : nodes c ≤ nodesL l := by
  induction l with
  | nil => cases h
  | cons d l ih =>
    rw [nodesL]
    rcases List.mem_cons.1 h with rfl | h
    · omega
    · have := ih h; omega
theorem right_fits {c : S46} (h : rightB c = true) : fitsB c = true ∧ nodes c ≤ 100 := by
  unfold rightB at h
  rw [Bool.and_eq_true, decide_eq_true_eq] at h; exact h
theorem fits_one {c : S46} (h : fitsB c = true) : oneB c = true ∧ fitsL c.f1 = true := by
  rw [fits_eq, Bool.and_eq_true] at h; exact h
theorem fitsL_all (l : List S46) : fitsL l = l.all fitsB := by
  induction l with
  | nil => rfl
  | cons c l ih => rw [fitsL, ih]; rfl
theorem fits_mem {l : List S46} (h : fitsL l = true) {c : S46} (hc : c ∈ l) : fitsB c = true := by
  rw [fitsL_all] at h; exact List.all_eq_true.1 h c hc
end Go.Proofs.Ytoeklekjhaigoaa.QMean
end
section
namespace Go.Proofs.Ytoeklekjhaigoaa.QOne
open Go.Proofs.Ytoeklekjhaigoaa.Al Go.RowKit Go.Proofs.YtoeklekjhaigoaaW.PrintWords Go.Proofs.YtoeklekjhaigoaaW.PrintLast Go.Proofs.YtoeklekjhaigoaaW.PrintMore Go.Proofs.Ytoeklekjhaigoaa.M0 Go.Proofs.Ytoeklekjhaigoaa.QCond Go.Proofs.Ytoeklekjhaigoaa.QMean
set_option linter.unusedVariables false
set_option linter.unusedSimpArgs false
theorem rd46 (l : List S46) (i : Nat) (h : i < l.length) : rd_T46 l (i : Int) = l[i] := by
  unfold rd_T46; simp [List.getD, h]
theorem wr_succ (i : Nat) (h : i ≤ 100000) : wrap64 ((i : Int) + 1) = ((i + 1 : Nat) : Int) := by unfold wrap64; omega
theorem bare_f (c : S46) : doorwardref16_bare.f c.f0 c.f1 c.f2 c.f3 c.f4 c.f5 = some (bareB c) := by
  unfold doorwardref16_bare.f bareB
  by_cases h2 : c.f2 = 0
  · by_cases h3 : c.f3 = 0
    · by_cases h4 : c.f4.toList = []
      · by_cases h5 : c.f5 = 0 <;> simp [h2, h3, h4, h5]
      · simp [h2, h3, h4]
    · simp [h2, h3]
  · simp [h2]
theorem sign_f (s : ByteArray) : doorwardref16_sign.f s = some (signOk s) := by
  unfold doorwardref16_sign.f signOk signs
  generalize s.toList = l
  by_cases h1 : l = [61, 61]
  · rw [if_pos h1, h1]; rfl
  rw [if_neg h1]
  by_cases h2 : l = [33, 61]
  · rw [if_pos h2, h2]; rfl
  rw [if_neg h2]
  by_cases h3 : l = [60]
  · rw [if_pos h3, h3]; rfl
  rw [if_neg h3]
  by_cases h4 : l = [60, 61]
  · rw [if_pos h4, h4]; rfl
  rw [if_neg h4]
  by_cases h5 : l = [62]
  · rw [if_pos h5, h5]; rfl
  rw [if_neg h5]
  congr 1
  rw [Bool.eq_iff_iff]
  simp [h1, h2, h3, h4, h5]
theorem idx_loop (s : ByteArray) : ∀ (n i : Nat), 6 - i ≤ n → i ≤ 6 → ∀ k, n < k →
    (slices_Index_string_string.l0 k ([(⟨#[61, 61]⟩ : ByteArray), (⟨#[33, 61]⟩ : ByteArray), (⟨#[60]⟩ : ByteArray), (⟨#[60, 61]⟩ : ByteArray), (⟨#[62]⟩ : ByteArray), (⟨#[62, 61]⟩ : ByteArray)]) s 6 (i : Int)).map (fun t => decide (t ≥ 0)) = some ((signs.drop i).contains s.toList) := by
  intro n
  induction n with
  | zero =>
    intro i h1 h2 k hk
    obtain ⟨k, rfl⟩ : ∃ m, k = m + 1 := ⟨k - 1, by omega⟩
    obtain rfl : i = 6 := by omega
    simp only [slices_Index_string_string.l0]
    rw [if_neg (by omega)]
    rfl
  | succ n ih =>
    intro i h1 h2 k hk
    obtain ⟨k, rfl⟩ : ∃ m, k = m + 1 := ⟨k - 1, by omega⟩
    by_cases h6 : i = 6
    · subst h6
      simp only [slices_Index_string_string.l0]
      rw [if_neg (by omega)]
      rfl
    · have hi := ih (i + 1) (by omega) (by omega) k (by omega)
      simp only [slices_Index_string_string.l0]
      rw [if_pos (by omega), if_pos (by omega), if_pos (by simp; omega), wr_succ i (by omega)]
      have hd : signs.drop i = (rdOf ByteArray.empty [(⟨#[61, 61]⟩ : ByteArray), (⟨#[33, 61]⟩ : ByteArray), (⟨#[60]⟩ : ByteArray), (⟨#[60, 61]⟩ : ByteArray), (⟨#[62]⟩ : ByteArray), (⟨#[62, 61]⟩ : ByteArray)] (i : Int)).toList :: signs.drop (i + 1) := by
        have hi6 : i = 0 ∨ i = 1 ∨ i = 2 ∨ i = 3 ∨ i = 4 ∨ i = 5 := by omega
        rcases hi6 with rfl | rfl | rfl | rfl | rfl | rfl <;> (rw [ByteArray.toList_eq]; rfl)
      rw [hd, List.contains_cons]
      generalize (rdOf ByteArray.empty [(⟨#[61, 61]⟩ : ByteArray), (⟨#[33, 61]⟩ : ByteArray), (⟨#[60]⟩ : ByteArray), (⟨#[60, 61]⟩ : ByteArray), (⟨#[62]⟩ : ByteArray), (⟨#[62, 61]⟩ : ByteArray)] (i : Int)).toList = q
      by_cases hs : s.toList = q
      · rw [if_pos hs, hs]
        simp
      · rw [if_neg hs, hi]
        have : (s.toList == q) = false := by simpa using hs
        rw [this, Bool.false_or]
theorem signs_f (s : ByteArray) (k : Nat) (hk : 7 ≤ k) : (types_signs.f).bind (fun t => slices_Contains_string_string.f k t s) = some (signOk s) := by
  unfold types_signs.f slices_Contains_string_string.f slices_Index_string_string.f
  have h := idx_loop s 6 0 (by omega) (by omega) k (by omega)
  rw [Option.bind_some]
  show (slices_Index_string_string.l0 k _ s 6 0).bind (fun t => some (decide (t ≥ 0))) = _
  have hb : ∀ o : Option Int, (o.bind fun t => some (decide (t ≥ 0))) = o.map fun t => decide (t ≥ 0) := by intro o; cases o <;> rfl
  rw [hb]
  exact h
theorem one_f (c : S46) (k : Nat) (hk : 10 ≤ k) : types_one.f k c.f0 c.f1 c.f2 c.f3 c.f4 c.f5 = some (oneB c) := by
  have j : ∀ b : Bool, b = bareB c → types_one.j0 k b c.f0 c.f1 c.f2 c.f3 c.f4 c.f5 = some (oneB c) := by
    intro b hb
    obtain ⟨k, rfl⟩ : ∃ m, k = m + 1 + 1 := ⟨k - 2, by omega⟩
    simp only [types_one.j0, types_one.j1]
    unfold oneB
    rw [← hb]
    by_cases h4 : c.f0 = 4
    · rw [if_pos h4, if_pos h4]
      by_cases g0 : 0 ≤ c.f2
      · rw [if_pos g0]
        by_cases g6 : c.f2 < 6
        · rw [if_pos g6, decide_eq_true (show 0 ≤ c.f2 ∧ c.f2 < 6 from ⟨g0, g6⟩)]
          have hs := signs_f c.f4 (k + 1) (by omega)
          unfold types_signs.f at hs ⊢
          rw [Option.bind_some] at hs ⊢
          rw [hs, Option.bind_some, Bool.eq_iff_iff.2 (show ((c.f1.length : Int) == 0) = true ↔ decide (c.f1.length = 0) = true by simp)]
          cases signOk c.f4 <;> rfl
        · rw [if_neg g6, decide_eq_false (show ¬ (0 ≤ c.f2 ∧ c.f2 < 6) by omega)]; rfl
      · rw [if_neg g0, decide_eq_false (show ¬ (0 ≤ c.f2 ∧ c.f2 < 6) by omega)]; rfl
    · rw [if_neg h4, if_neg h4]
      by_cases h1 : c.f0 = 1
      · rw [if_pos h1, if_pos (by rw [h1]; rfl), if_pos (Or.inl h1)]
        cases b
        · rfl
        · rw [if_pos rfl, Bool.true_and, decide_eq_decide.2 (show ((c.f1.length : Int) ≥ 2) ↔ 2 ≤ c.f1.length by omega)]
      · rw [if_neg h1]
        by_cases h2 : c.f0 = 2
        · rw [if_pos (by rw [h2]; rfl), if_pos (Or.inr h2)]
          cases b
          · rfl
          · rw [if_pos rfl, Bool.true_and, decide_eq_decide.2 (show ((c.f1.length : Int) ≥ 2) ↔ 2 ≤ c.f1.length by omega)]
        · rw [if_neg (by simpa using h2), if_neg (show ¬ (c.f0 = 1 ∨ c.f0 = 2) by omega)]
          by_cases h3 : c.f0 = 3
          · rw [if_pos h3, if_pos h3]
            cases b
            · rfl
            · rw [if_pos rfl, Bool.true_and, Bool.eq_iff_iff.2 (show ((c.f1.length : Int) == 1) = true ↔ decide (c.f1.length = 1) = true by simp; omega)]
          · rw [if_neg h3, if_neg h3]
  unfold types_one.f
  by_cases h2 : c.f2 = 0
  · rw [if_pos h2]
    by_cases h3 : c.f3 = 0
    · rw [if_pos h3]
      by_cases h4 : c.f4.toList = []
      · rw [if_pos h4]
        refine j _ ?_
        unfold bareB
        rw [decide_eq_true h2, decide_eq_true h3, decide_eq_true h4]
        simp only [Bool.true_and]
        by_cases h5 : c.f5 = 0 <;> simp [h5]
      · rw [if_neg h4]
        exact j _ (by unfold bareB; rw [decide_eq_false h4]; simp)
    · rw [if_neg h3]
      exact j _ (by unfold bareB; rw [decide_eq_false h3]; simp)
  · rw [if_neg h2]
    exact j _ (by unfold bareB; rw [decide_eq_false h2]; simp)
def FitsC (c : S46) : Prop := ∀ k, 4 * nodes c ≤ k → doorwardref16_fits.f k c.f0 c.f1 c.f2 c.f3 c.f4 c.f5 = some (fitsB c)
theorem fits_loop (l : List S46) (hl : l.length ≤ 1000) (h : ∀ c ∈ l, FitsC c) : ∀ (n i : Nat), l.length - i ≤ n → i ≤ l.length → ∀ k, 4 * nodesL (l.drop i) + 1 ≤ k → doorwardref16_fits.l0 k l (l.length : Int) (i : Int) = some (fitsL (l.drop i)) := by
  intro n
  induction n with
  | zero =>
    intro i h1 h2 k hk
    obtain ⟨k, rfl⟩ : ∃ m, k = m + 1 := ⟨k - 1, by omega⟩
    simp only [doorwardref16_fits.l0]
    rw [if_neg (by omega), List.drop_eq_nil_of_le (by omega)]; rfl
  | succ n ih =>
    intro i h1 h2 k hk
    obtain ⟨k, rfl⟩ : ∃ m, k = m + 1 := ⟨k - 1, by omega⟩
    by_cases hlt : i < l.length
    · simp only [doorwardref16_fits.l0]
      rw [if_pos (by omega), if_pos (by omega), if_pos (by omega), rd46 l i hlt, wr_succ i (by omega)]
      rw [List.drop_eq_getElem_cons hlt] at hk ⊢
      rw [nodesL] at hk
      have hp := nodes_pos l[i]
      rw [h l[i] (List.getElem_mem hlt) k (by omega), Option.bind_some, fitsL]
      cases fitsB l[i] with
      | true => rw [if_pos rfl, Bool.true_and]; exact ih (i + 1) (by omega) (by omega) k (by omega)
      | false => rfl
    · simp only [doorwardref16_fits.l0]
      rw [if_neg (by omega), List.drop_eq_nil_of_le (by omega)]; rfl
theorem fits_f : ∀ (n : Nat), n ≤ 1000 → ∀ c : S46, nodes c ≤ n → FitsC c := by
  intro n
  induction n with
  | zero => intro _ c h; have := nodes_pos c; omega
  | succ n ih =>
    intro hn c h k hk
    have e1 := nodes_eq c
    have e2 := len_nodes c.f1
    have hkids : ∀ d ∈ c.f1, FitsC d := by
      intro d hd
      refine ih (by omega) d ?_
      have := nodes_mem hd
      omega
    obtain ⟨k, rfl⟩ : ∃ m, k = m + 4 := ⟨k - 4, by omega⟩
    have hl0 := fits_loop c.f1 (by omega) hkids c.f1.length 0 (by omega) (by omega) (k + 1) (by rw [List.drop_zero]; omega)
    rw [List.drop_zero] at hl0
    rw [fits_eq]
    unfold oneB
    simp only [doorwardref16_fits.f, doorwardref16_fits.j0, doorwardref16_fits.j1, bare_f, sign_f, Option.bind_some]
    by_cases h4 : c.f0 = 4
    · rw [if_pos h4, if_pos h4]
      by_cases g0 : 0 ≤ c.f2
      · rw [if_pos g0]
        by_cases g5 : c.f2 ≤ 5
        · rw [if_pos g5, decide_eq_true (show 0 ≤ c.f2 ∧ c.f2 < 6 by omega), Bool.true_and, Bool.eq_iff_iff.2 (show ((c.f1.length : Int) == 0) = true ↔ decide (c.f1.length = 0) = true by simp)]
          cases signOk c.f4 with
          | true =>
            rw [if_pos rfl, Bool.true_and]
            by_cases hz : c.f1.length = 0
            · rw [List.eq_nil_of_length_eq_zero hz]; rfl
            · rw [decide_eq_false hz]; rfl
          | false => rfl
        · rw [if_neg g5, decide_eq_false (show ¬ (0 ≤ c.f2 ∧ c.f2 < 6) by omega)]; rfl
      · rw [if_neg g0, decide_eq_false (show ¬ (0 ≤ c.f2 ∧ c.f2 < 6) by omega)]; rfl
    · rw [if_neg h4, if_neg h4]
      cases bareB c with
      | false =>
        rw [if_neg (by decide)]
        simp only [if_true]
        split
        · rfl
        · split
          · rfl
          · rfl
      | true =>
        rw [if_pos rfl]
        have two : (if (decide ((c.f1.length : Int) < 2)) = true then some false else doorwardref16_fits.l0 (k + 1) c.f1 (c.f1.length : Int) 0) = some (decide (2 ≤ c.f1.length) && fitsL c.f1) := by
          by_cases g : 2 ≤ c.f1.length
          · rw [if_neg (by rw [decide_eq_true_eq]; omega), decide_eq_true g, Bool.true_and]; exact hl0
          · rw [if_pos (decide_eq_true (by omega)), decide_eq_false g]; rfl
        by_cases h1 : c.f0 = 1
        · rw [if_pos h1, if_neg (by decide), if_neg (by omega), if_pos (Or.inl h1), Bool.true_and]
          exact two
        · rw [if_neg h1]
          by_cases h2 : c.f0 = 2
          · rw [if_pos h2, if_neg (by decide), if_neg (by omega), if_pos (Or.inr h2), Bool.true_and]
            exact two
          · rw [if_neg h2, if_neg (show ¬ (c.f0 = 1 ∨ c.f0 = 2) by omega)]
            by_cases h3 : c.f0 = 3
            · rw [if_neg (by rw [h3]; decide), if_pos h3, if_pos h3, Bool.true_and]
              by_cases g : c.f1.length = 1
              · rw [if_pos (by omega), if_neg (by decide), decide_eq_true g, Bool.true_and]; exact hl0
              · rw [if_neg (by omega), decide_eq_false g]; rfl
            · rw [if_pos (by simpa using h3), if_neg h3]; rfl
theorem tests_nodes : ∀ (n : Nat) (c : S46), nodes c ≤ n → testsN c ≤ nodes c := by
  intro n
  induction n with
  | zero => intro c h; have := nodes_pos c; omega
  | succ n ih =>
    intro c h
    have hL : ∀ l : List S46, nodesL l ≤ n → testsL l ≤ nodesL l := by
      intro l
      induction l with
      | nil => intro _; exact Nat.le_refl _
      | cons d l ih2 =>
        intro h2
        rw [nodesL] at h2 ⊢
        rw [testsL]
        have := ih d (by omega); have := ih2 (by omega); omega
    have e1 := nodes_eq c
    have := hL c.f1 (by omega)
    rw [tests_eq]; split <;> omega
theorem testsL_nodes (l : List S46) : testsL l ≤ nodesL l := by
  induction l with
  | nil => exact Nat.le_refl _
  | cons d l ih => rw [nodesL, testsL]; have := tests_nodes _ d (Nat.le_refl _); omega
def TestsC (c : S46) : Prop := ∀ k, 2 * nodes c ≤ k → doorwardref16_tests.f k c.f0 c.f1 c.f2 c.f3 c.f4 c.f5 = some (testsN c : Int)
theorem tests_loop (l : List S46) (hl : nodesL l ≤ 1000) (h : ∀ c ∈ l, TestsC c) : ∀ (n i : Nat), l.length - i ≤ n → i ≤ l.length → ∀ (k t : Nat), t + testsL (l.drop i) ≤ 1000 → 2 * nodesL (l.drop i) + 1 ≤ k → doorwardref16_tests.l0 k (t : Int) l (l.length : Int) (i : Int) = some ((t + testsL (l.drop i) : Nat) : Int) := by
  have hl2 := len_nodes l
  intro n
  induction n with
  | zero =>
    intro i h1 h2 k t ht hk
    obtain ⟨k, rfl⟩ : ∃ m, k = m + 1 := ⟨k - 1, by omega⟩
    simp only [doorwardref16_tests.l0]
    rw [if_neg (by omega), List.drop_eq_nil_of_le (by omega), testsL, Nat.add_zero]
  | succ n ih =>
    intro i h1 h2 k t ht hk
    obtain ⟨k, rfl⟩ : ∃ m, k = m + 1 := ⟨k - 1, by omega⟩
    by_cases hlt : i < l.length
    · simp only [doorwardref16_tests.l0]
      rw [if_pos (by omega), if_pos (by omega), if_pos (by omega), rd46 l i hlt, wr_succ i (by omega)]
      rw [List.drop_eq_getElem_cons hlt] at hk ht ⊢
      rw [nodesL] at hk
      rw [testsL] at ht ⊢
      have hp := nodes_pos l[i]
      have hf := h l[i] (List.getElem_mem hlt) k (by omega)
      rw [hf, Option.bind_some]
      clear hf h
      have ih' := ih (i + 1) (by omega) (by omega) k
      generalize testsN l[i] = q at *
      generalize nodes l[i] = r at *
      generalize testsL (l.drop (i + 1)) = u at *
      clear ih
      have a1 : t + q + u ≤ 1000 := by rw [Nat.add_assoc]; exact ht
      generalize nodesL (l.drop (i + 1)) = z at *
      have a2 : 2 * z + 1 ≤ k := by omega
      have hw : wrap64 ((t : Int) + (q : Int)) = ((t + q : Nat) : Int) := by unfold wrap64; omega
      rw [hw, ih' (t + q) a1 a2, Nat.add_assoc]
    · simp only [doorwardref16_tests.l0]
      rw [if_neg (by omega), List.drop_eq_nil_of_le (by omega), testsL, Nat.add_zero]
theorem tests_f : ∀ (n : Nat), n ≤ 1000 → ∀ c : S46, nodes c ≤ n → fitsB c = true → TestsC c := by
  intro n
  induction n with
  | zero => intro _ c h; have := nodes_pos c; omega
  | succ n ih =>
    intro hn c h hf k hk
    have e1 := nodes_eq c
    have ⟨ho, hL⟩ := fits_one hf
    obtain ⟨k, rfl⟩ : ∃ m, k = m + 1 := ⟨k - 1, by omega⟩
    simp only [doorwardref16_tests.f]
    rw [tests_eq]
    by_cases h4 : c.f0 = 4
    · rw [if_pos h4, if_pos h4]
      have : c.f1 = [] := by
        unfold oneB at ho
        rw [if_pos h4, Bool.and_eq_true, decide_eq_true_eq] at ho
        exact List.eq_nil_of_length_eq_zero ho.2
      rw [this]; rfl
    · rw [if_neg h4, if_neg h4]
      have h2 := testsL_nodes c.f1
      have hl0 := tests_loop c.f1 (by omega) (fun d hd => ih (by omega) d (by have := nodes_mem hd; omega) (fits_mem hL hd)) c.f1.length 0 (by omega) (by omega) k 0 (by rw [List.drop_zero]; omega) (by rw [List.drop_zero]; omega)
      rw [List.drop_zero] at hl0
      exact hl0
end Go.Proofs.Ytoeklekjhaigoaa.QOne
end
section
namespace Go.Proofs.Ytoeklekjhaigoaa.HCount
open Go.Proofs.Ytoeklekjhaigoaa.Al Go.RowKit Go.Proofs.YtoeklekjhaigoaaW.PrintWords Go.Proofs.YtoeklekjhaigoaaW.PrintLast Go.Proofs.YtoeklekjhaigoaaW.PrintMore Go.Proofs.Ytoeklekjhaigoaa.M0 Go.Proofs.Ytoeklekjhaigoaa.QCond Go.Proofs.Ytoeklekjhaigoaa.QMean Go.Proofs.Ytoeklekjhaigoaa.QOne Go.Proofs.Ytoeklekjhaigoaa.HMany
set_option linter.unusedVariables false
set_option linter.unusedSimpArgs false
set_option maxRecDepth 100000
attribute [local go_sem] max2_int min2_int max_two min_two
/-- The captured queue and the tests counted so far. -/
structure Sq (w0 w : World) (tb qb : Nat) (t : Nat) (v : Value) (xs : List S46) : Prop where
  ht : w.heap[tb]? = some (.cells #[.int .i64 (t : Int)] 3 (0, 0))
  hq : w.heap[qb]? = some (.cells #[v] 44 (0, 0))
  N : Kd.N k46 46 w w0.heap.size (fun k => k ≠ tb ∧ k ≠ qb) v xs
  B : Below w0.heap.size w0 w
  bt : w0.heap.size ≤ tb
  bq : w0.heap.size ≤ qb
  ne : tb ≠ qb
theorem Sq.below {w0 w w1 : World} {tb qb t : Nat} {v : Value} {xs : List S46} (h : Sq w0 w tb qb t v xs) (hb : Below w.heap.size w w1) : Sq w0 w1 tb qb t v xs :=
  ⟨(hb.block _ (blk_lt h.ht)).trans h.ht, (hb.block _ (blk_lt h.hq)).trans h.hq, Kd.N_below h.N hb, below_step h.B hb, h.bt, h.bq, h.ne⟩
theorem Sq.tick {w0 w : World} {tb qb t : Nat} {v : Value} {xs : List S46} (h : Sq w0 w tb qb t v xs) : Sq w0 (w.setCell ⟨tb, 0, none⟩ (.int .i64 ((t : Int) + 1))) tb qb (t + 1) v xs :=
  ⟨by have := blk_put h.ht 0 (.int .i64 ((t : Int) + 1)) rfl; exact this, (Below.heap_setCell _ _ _ _ h.ne.symm).trans h.hq, Kd.N_far h.N (fun k hk => hk.1) _, h.B.setCell (p := ⟨tb, 0, none⟩) h.bt _, h.bt, h.bq, h.ne⟩
theorem Sq.put {w0 w w1 : World} {tb qb t : Nat} {v v1 : Value} {xs ys : List S46} (h : Sq w0 w tb qb t v xs) (hN : Kd.N k46 46 w1 w0.heap.size (fun k => k ≠ tb ∧ k ≠ qb) v1 (xs ++ ys)) (hB : Below w0.heap.size w0 w1) (hg : w.grownBy w1 v.ownBlock) : Sq w0 (w1.setCell ⟨qb, 0, none⟩ v1) tb qb t v1 (xs ++ ys) := by
  have n1 := Kd.N_ne h.N h.ht (by decide)
  have n2 := Kd.N_ne h.N h.hq (by decide)
  have h1 := (hg.block tb (blk_lt h.ht) n1).trans h.ht
  have h2 := (hg.block qb (blk_lt h.hq) n2).trans h.hq
  exact ⟨(Below.heap_setCell _ _ _ _ h.ne).trans h1, blk_put h2 0 _ rfl, Kd.N_far hN (fun k hk => hk.2) _, hB.setCell (p := ⟨qb, 0, none⟩) h.bq _, h.bt, h.bq, h.ne⟩
theorem one_any (c : S46) (A : Option Addr) (n : Nat) (w : World) (hC : Kd.C k46 w A c.f1.length c.f1) (hn : c.f1.length ≤ n) :
    Calls Try.prog 133 #[.agg #[.int .i64 c.f0, .slice A c.f1.length n, .int .i64 c.f2, .int .u64 c.f3, .string c.f4, .int .u64 c.f5]] w fun e w' => e = .returned (.bool (oneB c)) ∧ Below w.heap.size w w' :=
  types_one.calls 10 c.f0 A n c.f1 c.f2 c.f3 c.f4 c.f5 (oneB c) w hC hn (one_f c 10 (Nat.le_refl _))
theorem new_blk (w : World) (a : Addr) (v : Value) (o : Obj) : ((w.setCell a v).alloc o).heap[w.heap.size]? = some o := by
  have e : (w.setCell a v).heap.size = w.heap.size := by simp [World.setCell]
  have := heap_alloc_new (w.setCell a v) o
  rw [e] at this; exact this
/-- What the closure leaves. -/
def SeePost (w0 : World) (tb qb t : Nat) (v : Value) (xs : List S46) (c : S46) (e : Ending) (w' : World) : Prop :=
  if 100 < c.f1.length + xs.length then e = .returned (.bool false) ∧ Sq w0 w' tb qb (t + (if c.f0 = 4 then 1 else 0)) v xs
  else ∃ v', e = .returned (.bool (oneB c)) ∧ Sq w0 w' tb qb (t + (if c.f0 = 4 then 1 else 0)) v' (xs ++ c.f1)
set_option maxHeartbeats 2000000 in
theorem see_c {w0 w : World} {tb qb t : Nat} {v : Value} {xs : List S46} (h : Sq w0 w tb qb t v xs) (c : S46) (A : Option Addr) (n : Nat) (hn : c.f1.length ≤ n) (hF : Kd.F k46 w (fun k => (k ≠ tb ∧ k ≠ qb) ∧ some k ≠ v.ownBlock) A c.f1.length c.f1) (ht : t ≤ 1000) (hx : xs.length ≤ 1000) :
    Calls Try.prog 132 #[.agg #[.int .i64 c.f0, .slice A c.f1.length n, .int .i64 c.f2, .int .u64 c.f3, .string c.f4, .int .u64 c.f5], .pointer (some ⟨tb, 0, none⟩), .pointer (some ⟨qb, 0, none⟩)] w (SeePost w0 tb qb t v xs c) := by
  have hu46 := Try.underlying46
  have hb0 := bal (Below.refl w.heap.size w) (.cells #[.int .i64 c.f0, .slice A c.f1.length n, .int .i64 c.f2, .int .u64 c.f3, .string c.f4, .int .u64 c.f5] 46)
  have HS := amk (h.below hb0)
  have HF := amk (Kd.F_below hF hb0)
  have HX := amk (heap_alloc_new w (.cells #[.int .i64 c.f0, .slice A c.f1.length n, .int .i64 c.f2, .int .u64 c.f3, .string c.f4, .int .u64 c.f5] 46))
  have HU := amk (h.tick.below (bal (Below.refl _ _) (.cells #[.int .i64 c.f0, .slice A c.f1.length n, .int .i64 c.f2, .int .u64 c.f3, .string c.f4, .int .u64 c.f5] 46)))
  have HV := amk (Kd.F_alloc (Kd.F_far hF (p := ⟨tb, 0, none⟩) (fun k hk => hk.1.1) (.int .i64 ((t : Int) + 1))) (.cells #[.int .i64 c.f0, .slice A c.f1.length n, .int .i64 c.f2, .int .u64 c.f3, .string c.f4, .int .u64 c.f5] 46))
  have HY := amk (new_blk w ⟨tb, 0, none⟩ (.int .i64 ((t : Int) + 1)) (.cells #[.int .i64 c.f0, .slice A c.f1.length n, .int .i64 c.f2, .int .u64 c.f3, .string c.f4, .int .u64 c.f5] 46))
  have l1 := blk_lt h.ht
  have l2 := blk_lt h.hq
  have k1 := blk_cell h.ht 0
  have f1 := blk_frozen h.ht 0
  obtain ⟨Av, cv, rfl⟩ := Kd.N_slice h.N
  have hm := Kd.F_max hF
  have tw : wrap64 ((t : Int) + 1) = (t : Int) + 1 := by unfold wrap64; omega
  have sw : wrap64 (100 - (xs.length : Int)) = 100 - (xs.length : Int) := by unfold wrap64; omega
  have HT := amk ht
  have HXL := amk hx
  have HN := amk hn
  have HLT := amk (Kd.N_lt h.N)
  have HLQ := amk l2
  clear h hF hb0 ht hx
  unfold SeePost
  generalize hT : (if c.f0 = 4 then t + 1 else t) = T
  have hT' : t + (if c.f0 = 4 then 1 else 0) = T := by rw [← hT]; split <;> rfl
  rw [hT']
  clear hT'
  by_cases h4 : c.f0 = 4
  · have d4 : (c.f0 == 4) = true := by rw [h4]; rfl
    rw [if_pos h4] at hT
    rw [hT] at HU
    clear hT h4 HS HF HX
    go_enter Try.func132, Try.ntmps132
    go_upto_region 3 with (fail)
    clear k1 f1
    generalize ((w.setCell ⟨tb, 0, none⟩ (.int .i64 ((t : Int) + 1))).alloc (.cells #[.int .i64 c.f0, .slice A c.f1.length n, .int .i64 c.f2, .int .u64 c.f3, .string c.f4, .int .u64 c.f5] 46)) = W at *
    have HS := HU
    have HF := HV
    have HX := HY
    clear HU HV HY tw
    have kq := blk_cell HS.out.hq 0
    have kb1 := blk_cell HX.out 1
    have kb0 := blk_cell HX.out 0
    have kb2 := blk_cell HX.out 2
    have kb3 := blk_cell HX.out 3
    have kb4 := blk_cell HX.out 4
    have kb5 := blk_cell HX.out 5
    by_cases hov : 100 < c.f1.length + xs.length
    · have d5 : decide (100 - (xs.length : Int) < (c.f1.length : Int)) = true := decide_eq_true (by omega)
      have HE := amk HS.out
      have HO := amk hov
      clear HS HF HX hov
      go_wp2
      · go_ret
        exact ⟨rfl, HE.out⟩
      · exact absurd HO.out (by assumption)
    · have d5 : decide (100 - (xs.length : Int) < (c.f1.length : Int)) = false := decide_eq_false (by omega)
      have HO := amk hov
      have hl100 : xs.length + c.f1.length ≤ 100 := by omega
      clear hov
      have HB := amk HS.out.B
      have HNN := amk HS.out.N
      have HFR := amk (fun k (hk : W.heap.size ≤ k) => (show k ≠ tb ∧ k ≠ qb from ⟨by have := blk_lt HS.out.ht; omega, by have := blk_lt HS.out.hq; omega⟩))
      have HPUT := amk (fun w1 v1 => HS.out.put (w1 := w1) (v1 := v1) (ys := c.f1))
      have HX2 := HX
      clear HX
      go_upto_region 6 with (at_builtin; refine Kd.N_append_rows k46 (w0 := w0) w0.heap.size rfl (.tmp 17) (.tmp 19) 44 46 _ 72 rfl Try.underlying44 hInfo46 rfl (by decide) (by decide) _ xs c.f1 A c.f1.length n (fun k => k ≠ tb ∧ k ≠ qb) _ rfl rfl HNN.out HF.out (fun _ hk => hk) HFR.out HB.out HB.out.size (by omega) ?_; intro v1 w1 hN1 hb1 hg1 hat1; obtain ⟨Aq, cq, rfl⟩ := Kd.N_slice hN1; rw [List.length_append] at hN1; have hh2 := (hg1.block qb (blk_lt HS.out.hq) (Kd.N_ne HNN.out HS.out.hq (by decide))).trans HS.out.hq; have k2 := blk_cell hh2 0; have f2 := blk_frozen hh2 0; have HP := amk (HPUT.out w1 _ hN1 hb1 hg1); have HF3 := amk (Kd.F_now (Kd.F_far (Kd.F_grown HF.out hg1 (fun k hk => hk.2)) (p := ⟨qb, 0, none⟩) (fun k hk => hk.1.2) (.slice Aq (xs.length + c.f1.length) cq))); have HX3 := amk ((Below.heap_setCell w1 ⟨qb, 0, none⟩ (.slice Aq (xs.length + c.f1.length) cq) w.heap.size (by have := HLQ.out; simp only; omega)).trans ((hg1.block w.heap.size (blk_lt HX2.out) (fun e => by have := HLT.out _ e.symm; omega)).trans HX2.out)); clear hh2 hN1 hb1 hg1 hat1)
      clear k2 f2 kq kb0 kb1 kb2 kb3 kb4 kb5 HS HF HX2 HB HNN HPUT HFR
      generalize w1.setCell ⟨qb, 0, none⟩ (.slice Aq (xs.length + c.f1.length) cq) = W2 at *
      have kb1 := blk_cell HX3.out 1
      have kb0 := blk_cell HX3.out 0
      have kb2 := blk_cell HX3.out 2
      have kb3 := blk_cell HX3.out 3
      have kb4 := blk_cell HX3.out 4
      have kb5 := blk_cell HX3.out 5
      go_wp2_with (go_at_call 133; refine (one_any c A n _ HF3.out HN.out).mono ?_; rintro e w3 ⟨rfl, hb3⟩; have HE := amk (HP.out.below hb3); clear hb3)
      go_ret
      first | exact ⟨rfl, _, HE.out⟩ | exact ⟨_, rfl, HE.out⟩ | (rw [if_neg HO.out]; exact ⟨_, rfl, HE.out⟩)
  · have d4 : (c.f0 == 4) = false := by simpa using h4
    rw [if_neg h4] at hT
    rw [hT] at HS
    clear hT h4 HU HV HY k1 f1
    go_enter Try.func132, Try.ntmps132
    go_upto_region 3 with (fail)
    generalize (w.alloc (.cells #[.int .i64 c.f0, .slice A c.f1.length n, .int .i64 c.f2, .int .u64 c.f3, .string c.f4, .int .u64 c.f5] 46)) = W at *
    clear tw
    have kq := blk_cell HS.out.hq 0
    have kb1 := blk_cell HX.out 1
    have kb0 := blk_cell HX.out 0
    have kb2 := blk_cell HX.out 2
    have kb3 := blk_cell HX.out 3
    have kb4 := blk_cell HX.out 4
    have kb5 := blk_cell HX.out 5
    by_cases hov : 100 < c.f1.length + xs.length
    · have d5 : decide (100 - (xs.length : Int) < (c.f1.length : Int)) = true := decide_eq_true (by omega)
      have HE := amk HS.out
      have HO := amk hov
      clear HS HF HX hov
      go_wp2
      · go_ret
        exact ⟨rfl, HE.out⟩
      · exact absurd HO.out (by assumption)
    · have d5 : decide (100 - (xs.length : Int) < (c.f1.length : Int)) = false := decide_eq_false (by omega)
      have HO := amk hov
      have hl100 : xs.length + c.f1.length ≤ 100 := by omega
      clear hov
      have HB := amk HS.out.B
      have HNN := amk HS.out.N
      have HFR := amk (fun k (hk : W.heap.size ≤ k) => (show k ≠ tb ∧ k ≠ qb from ⟨by have := blk_lt HS.out.ht; omega, by have := blk_lt HS.out.hq; omega⟩))
      have HPUT := amk (fun w1 v1 => HS.out.put (w1 := w1) (v1 := v1) (ys := c.f1))
      have HX2 := HX
      clear HX
      go_upto_region 6 with (at_builtin; refine Kd.N_append_rows k46 (w0 := w0) w0.heap.size rfl (.tmp 17) (.tmp 19) 44 46 _ 72 rfl Try.underlying44 hInfo46 rfl (by decide) (by decide) _ xs c.f1 A c.f1.length n (fun k => k ≠ tb ∧ k ≠ qb) _ rfl rfl HNN.out HF.out (fun _ hk => hk) HFR.out HB.out HB.out.size (by omega) ?_; intro v1 w1 hN1 hb1 hg1 hat1; obtain ⟨Aq, cq, rfl⟩ := Kd.N_slice hN1; rw [List.length_append] at hN1; have hh2 := (hg1.block qb (blk_lt HS.out.hq) (Kd.N_ne HNN.out HS.out.hq (by decide))).trans HS.out.hq; have k2 := blk_cell hh2 0; have f2 := blk_frozen hh2 0; have HP := amk (HPUT.out w1 _ hN1 hb1 hg1); have HF3 := amk (Kd.F_now (Kd.F_far (Kd.F_grown HF.out hg1 (fun k hk => hk.2)) (p := ⟨qb, 0, none⟩) (fun k hk => hk.1.2) (.slice Aq (xs.length + c.f1.length) cq))); have HX3 := amk ((Below.heap_setCell w1 ⟨qb, 0, none⟩ (.slice Aq (xs.length + c.f1.length) cq) w.heap.size (by have := HLQ.out; simp only; omega)).trans ((hg1.block w.heap.size (blk_lt HX2.out) (fun e => by have := HLT.out _ e.symm; omega)).trans HX2.out)); clear hh2 hN1 hb1 hg1 hat1)
      clear k2 f2 kq kb0 kb1 kb2 kb3 kb4 kb5 HS HF HX2 HB HNN HPUT HFR
      generalize w1.setCell ⟨qb, 0, none⟩ (.slice Aq (xs.length + c.f1.length) cq) = W2 at *
      have kb1 := blk_cell HX3.out 1
      have kb0 := blk_cell HX3.out 0
      have kb2 := blk_cell HX3.out 2
      have kb3 := blk_cell HX3.out 3
      have kb4 := blk_cell HX3.out 4
      have kb5 := blk_cell HX3.out 5
      go_wp2_with (go_at_call 133; refine (one_any c A n _ HF3.out HN.out).mono ?_; rintro e w3 ⟨rfl, hb3⟩; have HE := amk (HP.out.below hb3); clear hb3)
      go_ret
      first | exact ⟨rfl, _, HE.out⟩ | exact ⟨_, rfl, HE.out⟩ | (rw [if_neg HO.out]; exact ⟨_, rfl, HE.out⟩)
def rest (xs : List S46) (d t : Nat) : Option Nat := if (fitsL (xs.drop d) && decide (d + nodesL (xs.drop d) ≤ 100)) = true then some (t + testsL (xs.drop d)) else none
theorem rest_cons (xs : List S46) (d t : Nat) (hd : d < xs.length) : rest xs d t = if (fitsB (rd_T46 xs d) && fitsL (xs.drop (d + 1)) && decide (d + (nodes (rd_T46 xs d) + nodesL (xs.drop (d + 1))) ≤ 100)) = true then some (t + (testsN (rd_T46 xs d) + testsL (xs.drop (d + 1)))) else none := by
  unfold rest
  have e : rd_T46 xs (d : Int) = xs[d] := rd46 xs d hd
  rw [List.drop_eq_getElem_cons hd, fitsL, nodesL, testsL, e]
theorem rest_over (xs : List S46) (d t : Nat) (hd : d < xs.length) (ho : 100 < (rd_T46 xs d).f1.length + xs.length) : rest xs d t = none := by
  rw [rest_cons xs d t hd, if_neg]
  intro h
  rw [Bool.and_eq_true, decide_eq_true_eq] at h
  have h := h.2
  have e1 := nodes_eq (rd_T46 xs d)
  have e2 := len_nodes (rd_T46 xs d).f1
  have e3 := len_nodes (xs.drop (d + 1))
  rw [List.length_drop] at e3
  omega
theorem rest_bad (xs : List S46) (d t : Nat) (hd : d < xs.length) (ho : oneB (rd_T46 xs d) = false) : rest xs d t = none := by
  rw [rest_cons xs d t hd, if_neg]
  intro h
  rw [fits_eq, ho] at h
  simp at h
theorem rest_next (xs : List S46) (d t : Nat) (hd : d < xs.length) (ho : oneB (rd_T46 xs d) = true) : rest xs d t = rest (xs ++ (rd_T46 xs d).f1) (d + 1) (t + (if (rd_T46 xs d).f0 = 4 then 1 else 0)) := by
  rw [rest_cons xs d t hd]
  unfold rest
  rw [List.drop_append_of_le_length (by omega), fitsL_append, nodesL_append, testsL_append, fits_eq, ho, Bool.true_and, nodes_eq, tests_eq]
  generalize nodesL (rd_T46 xs d).f1 = a
  generalize nodesL (xs.drop (d + 1)) = b
  generalize testsL (rd_T46 xs d).f1 = x
  generalize testsL (xs.drop (d + 1)) = y
  generalize (if (rd_T46 xs d).f0 = 4 then 1 else 0) = z
  rw [decide_eq_decide.2 (show d + (a + 1 + b) ≤ 100 ↔ d + 1 + (b + a) ≤ 100 by omega), show t + (z + x + y) = t + z + (y + x) by omega, Bool.and_comm (fitsL (rd_T46 xs d).f1)]
theorem rest_done (xs : List S46) (t : Nat) (h : xs.length ≤ 100) : rest xs xs.length t = some t := by
  unfold rest
  rw [List.drop_eq_nil_of_le (Nat.le_refl _), fitsL, nodesL, testsL, decide_eq_true (by omega)]; rfl
theorem rest_all (c : S46) : rest [c] 0 0 = if rightB c = true then some (testsN c) else none := by
  unfold rest rightB
  rw [List.drop_zero, fitsL, fitsL, nodesL, nodesL, testsL, testsL, Bool.and_true, Nat.zero_add, Nat.zero_add, Nat.add_zero, Nat.add_zero]
theorem count_some {c : S46} {t : Nat} (h : rest [c] 0 0 = some t) : countR c = ((t : Int), true) := by
  rw [rest_all] at h
  unfold countR
  split at h
  · rename_i hr
    rw [if_pos hr, Option.some.inj h]
  · cases h
theorem count_none {c : S46} (h : rest [c] 0 0 = none) : countR c = (0, false) := by
  rw [rest_all] at h
  unfold countR
  split at h
  · cases h
  · rename_i hr
    rw [if_neg hr]
structure CI (c : S46) (xs : List S46) (d t : Nat) : Prop where
  h1 : xs.length ≤ 100
  h2 : 1 ≤ xs.length
  h3 : d ≤ xs.length
  h4 : t ≤ d
  h5 : rest xs d t = rest [c] 0 0
set_option maxHeartbeats 2000000 in
theorem count_any (c : S46) (A1 : Option Addr) (c1 : Nat) (w : World) (hC : Kd.C k46 w A1 c.f1.length c.f1) (hc1 : c.f1.length ≤ c1) :
    Calls Try.prog 101 #[.agg #[.int .i64 c.f0, .slice A1 c.f1.length c1, .int .i64 c.f2, .int .u64 c.f3, .string c.f4, .int .u64 c.f5]] w fun e w' => e = .returned (.tuple #[.int .i64 (countR c).1, .bool (countR c).2]) ∧ Below w.heap.size w w' := by
  have hu46 := Try.underlying46
  have hmf : ∀ (fn : Fn) (first cap : Array Value) (w : World), (Instr.makeFunc fn first cap).run Try.prog w = .ok (.func fn first cap) w := fun _ _ _ _ => rfl
  have hFK := elder46 hC hc1
  have HB0 := amk (bal (Below.refl w.heap.size w) (.cells #[.int .i64 c.f0, .slice A1 c.f1.length c1, .int .i64 c.f2, .int .u64 c.f3, .string c.f4, .int .u64 c.f5] 46))
  have HF0 := amk (Kd.FK_below hFK HB0.out)
  clear hC hFK
  go_enter Try.func101, Try.ntmps101
  go_wp2_with ((with_reducible refine gate_dst (N := 9) rfl ?_); refine Kd.N_lit k46 w.heap.size 46 ?hg (N' := 9) ?hd (xs := [c]) (inner := cells46 c A1 c1) (ok := fun _ => True) (okp := fun k => k < w.heap.size) ?hr ?hp (fun _ _ => trivial) trivial HB0.out HB0.out.size (by simp) ?_; (case hd => rfl); (case hg => rfl); (case hr => first | (go_simp; done) | (go_simp; rfl)); (case hp => exact reps_one46 HF0.out); intro v1 w1 hN hb hg hat; have HQ := amk (Qu.mk hN hb); obtain ⟨Aq, cq, rfl⟩ := Kd.N_slice hN; clear hN hb hg hat)
  have HS := amk (show Sq w ((w1.alloc (.cells #[.slice Aq 1 cq] 44)).alloc (.cells #[.int .i64 0] 3)) (w1.heap.size + 1) w1.heap.size 0 (.slice Aq 1 cq) [c] from by
    have hq := HQ.out
    have e : (w1.alloc (.cells #[.slice Aq 1 cq] 44)).heap.size = w1.heap.size + 1 := by simp
    refine ⟨?_, ?_, ?_, bal (bal hq.B _) _, ?_, hq.B.size, by omega⟩
    · have := heap_alloc_new (w1.alloc (.cells #[.slice Aq 1 cq] 44)) (.cells #[.int .i64 0] 3)
      rw [e] at this; exact this
    · have h1 := heap_alloc_new w1 (.cells #[.slice Aq 1 cq] 44)
      exact (Below.heap_alloc _ _ _ (by rw [e]; omega)).trans h1
    · have h1 := Kd.N_elderB (Kd.N_elderB hq.N w1.heap.size (Nat.le_refl _)) (w1.heap.size + 1) (by omega)
      exact Kd.N_alloc (Kd.N_alloc (Kd.N_mono h1 (fun k hk => ⟨hk.2, hk.1.2⟩)) _) _
    · have := hq.B.size; omega)
  have HI := amk (show CI c [c] 0 0 from ⟨by simp, by simp, by simp, Nat.le_refl _, rfl⟩)
  clear HQ HF0 HB0
  generalize htb : w1.heap.size + 1 = tb at *
  generalize hqb : w1.heap.size = qb at *
  generalize hwr : (w1.alloc (.cells #[.slice Aq 1 cq] 44)).alloc (.cells #[.int .i64 0] 3) = w2 at *
  clear hwr htb hqb
  go_loopw [7] (fun i wr => ∃ (d t : Nat) (v : Value) (xs : List S46), i = .int .i64 d ∧ Aside0 (Sq w wr tb qb t v xs) ∧ Aside0 (CI c xs d t)) (fun i _ => 101 - (intOf i).toNat)
  case atStart => exact ⟨0, 0, _, _, rfl, HS, HI⟩
  case round =>
    clear HS HI
    obtain ⟨d, t, v, xs, rfl, hs, hi⟩ := hrel
    have hi1 := hi.out.h1
    have hi3 := hi.out.h3
    have hi4 := hi.out.h4
    obtain ⟨g, cap, rfl, hg, hgl, _⟩ := Kd.N_form hs.out.N (by have := hi.out.h2; omega)
    have kq := blk_cell hs.out.hq 0
    by_cases hlt : d < xs.length
    · have d1 : decide ((d : Int) < (xs.length : Int)) = true := decide_eq_true (by omega)
      obtain ⟨c', hcl, hFK, hcc, _⟩ := Kd.N_elem hs.out.N z46 (d : Int) (by omega) (by omega)
      obtain ⟨A', n', rfl, hn', hFk⟩ := k46_openF hFK
      have hx0 := hcc 0 _ rfl
      have hx1 := hcc 1 _ rfl
      have hx2 := hcc 2 _ rfl
      have hx3 := hcc 3 _ rfl
      have hx4 := hcc 4 _ rfl
      have hx5 := hcc 5 _ rfl
      have hrd : xs.getD (d : Int).toNat z46 = rd_T46 xs (d : Int) := rfl
      rw [hrd] at hFK hn' hFk hx0 hx1 hx2 hx3 hx4 hx5
      simp only [Int.toNat_natCast] at hx0 hx1 hx2 hx3 hx4 hx5
      rw [show k46.sz = 6 from rfl] at hx0 hx1 hx2 hx3 hx4 hx5
      rw [Nat.add_zero] at hx0
      have HR1 := amk (rest_over xs d t hlt)
      have HR2 := amk (rest_bad xs d t hlt)
      have HR3 := amk (rest_next xs d t hlt)
      have i0 : (0 : Int) ≤ (d : Int) := by omega
      have i1 : (d : Int) < (xs.length : Int) := by omega
      have HF := amk (show Kd.F k46 wr (fun b => (b ≠ tb ∧ b ≠ qb) ∧ some b ≠ (Value.slice (some ⟨g, 0, none⟩) xs.length cap).ownBlock) A' _ _ from Kd.F_mono hFk (fun b hb => ⟨hb.1, by rw [own_of]; exact hb.2⟩))
      generalize hx : rd_T46 xs (d : Int) = x at *
      clear hx
      have HSEE := amk (see_c hs.out x A' n' hn' HF.out (by omega) (by omega))
      have hln : xs.length ≤ 100 := hi1
      have HIS := amk (⟨hlt, hi1, hi4⟩ : d < xs.length ∧ xs.length ≤ 100 ∧ t ≤ d)
      clear hFK hFk hcc hcl hrd hs hi1 hi3 hi4 hg hgl HF hlt
      by_cases hov : 100 < x.f1.length + xs.length
      · have HN := amk (count_none (hi.out.h5.symm.trans (HR1.out hov)))
        unfold SeePost at HSEE
        simp only [if_pos hov] at HSEE
        clear HR1 HR2 HR3 hi
        go_wp2_with (go_at_call 132; refine HSEE.out.mono ?_; rintro e w3 ⟨rfl, hs3⟩; have HE := amk hs3.B; clear hs3)
        go_ret2
        exact ⟨congrArg (fun r : Int × Bool => Ending.returned (.tuple #[.int .i64 r.1, .bool r.2])) HN.out.symm, HE.out⟩
      · unfold SeePost at HSEE
        simp only [if_neg hov] at HSEE
        clear HR1
        cases ho : oneB x with
        | false =>
          have HN := amk (count_none (hi.out.h5.symm.trans (HR2.out ho)))
          rw [ho] at HSEE
          clear HR2 HR3 hi ho hov
          go_wp2_with (go_at_call 132; refine HSEE.out.mono ?_; rintro e w3 ⟨v3, rfl, hs3⟩; have HE := amk hs3.B; clear hs3)
          go_ret2
          exact ⟨congrArg (fun r : Int × Bool => Ending.returned (.tuple #[.int .i64 r.1, .bool r.2])) HN.out.symm, HE.out⟩
        | true =>
          have HN := amk (hi.out.h5.symm.trans (HR3.out ho))
          have HOV := amk hov
          have HI2 := amk hi.out.h2
          rw [ho] at HSEE
          clear HR2 HR3 hi ho hov
          go_wp2_with (go_at_call 132; refine HSEE.out.mono ?_; rintro e w3 ⟨v3, rfl, hs3⟩; have HE := amk hs3; clear hs3)
          refine ⟨⟨d + 1, _, v3, xs ++ x.f1, by rfl, HE, ⟨?_, ?_, ?_, ?_, HN.out.symm⟩⟩, ?_⟩
          · have := HOV.out; rw [List.length_append]; omega
          · have := HI2.out; rw [List.length_append]; omega
          · have := HIS.out; rw [List.length_append]; omega
          · have := HIS.out; split <;> omega
          · have := HIS.out
            simp [intOf]; omega
    · have d1 : decide ((d : Int) < (xs.length : Int)) = false := decide_eq_false (by omega)
      obtain rfl : d = xs.length := by omega
      have HN := amk (count_some (hi.out.h5.symm.trans (rest_done xs t hi1)))
      have kt := blk_cell hs.out.ht 0
      have HE := amk hs.out.B
      clear hi hs hg hgl
      go_wp2
      go_ret2
      exact ⟨congrArg (fun r : Int × Bool => Ending.returned (.tuple #[.int .i64 r.1, .bool r.2])) HN.out.symm, HE.out⟩
def types_count.f (a0_0 : Int) (l0_1 : List (S46)) (a0_2 : Int) (a0_3 : Int) (a0_4 : ByteArray) (a0_5 : Int) : Option (Int × Bool) := some (countR ⟨a0_0, l0_1, a0_2, a0_3, a0_4, a0_5⟩)
theorem types_count.calls (a0_0 : Int) (A0_1 : Option Addr) (c0_1 : Nat) (l0_1 : List (S46)) (a0_2 : Int) (a0_3 : Int) (a0_4 : ByteArray) (a0_5 : Int) (r1 : Int) (r2 : Bool) (w : World) (hr0_1 : Kd.C k46 w A0_1 l0_1.length l0_1) (hc0_1 : l0_1.length ≤ c0_1) (h : types_count.f a0_0 l0_1 a0_2 a0_3 a0_4 a0_5 = some (r1, r2)) :
    Calls Try.prog 101 #[.agg #[.int .i64 a0_0, .slice A0_1 l0_1.length c0_1, .int .i64 a0_2, .int .u64 a0_3, .string a0_4, .int .u64 a0_5]] w fun e w' => e = .returned (.tuple #[.int .i64 r1, .bool r2]) ∧ Below w.heap.size w w' := by
  have h2 := count_any ⟨a0_0, l0_1, a0_2, a0_3, a0_4, a0_5⟩ A0_1 c0_1 w hr0_1 hc0_1
  rw [Option.some.inj h] at h2
  exact h2
end Go.Proofs.Ytoeklekjhaigoaa.HCount
end
section
namespace Go.Proofs.Ytoeklekjhaigoaa.M1
open Go.Proofs.Ytoeklekjhaigoaa.Al Go.RowKit Go.Proofs.YtoeklekjhaigoaaW.PrintWords Go.Proofs.YtoeklekjhaigoaaW.PrintLast Go.Proofs.YtoeklekjhaigoaaW.PrintMore
attribute [local go_sem] max2_int min2_int max_two min_two max_three min_three max_four min_four IntKind.wrap_u32 IntKind.wrap_u8   -- for this text's walks alone
set_option linter.unusedVariables false
open Go.Proofs.Ytoeklekjhaigoaa.Le Go.Proofs.Ytoeklekjhaigoaa.C1 Go.Proofs.Ytoeklekjhaigoaa.C2 Go.Proofs.Ytoeklekjhaigoaa.HAct Go.Proofs.Ytoeklekjhaigoaa.W0 Go.Proofs.Ytoeklekjhaigoaa.W1 Go.Proofs.Ytoeklekjhaigoaa.R01 Go.Proofs.Ytoeklekjhaigoaa.HPack Go.Proofs.Ytoeklekjhaigoaa.HUnpack Go.Proofs.Ytoeklekjhaigoaa.HRefPack Go.Proofs.Ytoeklekjhaigoaa.M0 Go.Proofs.Ytoeklekjhaigoaa.HMany Go.Proofs.Ytoeklekjhaigoaa.HCount
set_option linter.unusedSimpArgs false
def errW : Option Int → Value
  | none => .nilIface
  | some c => .iface 0 (.int .i64 c)
theorem errW_none : errW none = .nilIface := rfl
theorem errW_some (c : Int) : errW (some c) = .iface 0 (.int .i64 c) := rfl
end Go.Proofs.Ytoeklekjhaigoaa.M1
end
section
namespace Go.Proofs.Ytoeklekjhaigoaa.M1
open Go.Proofs.Ytoeklekjhaigoaa.Al Go.RowKit Go.Proofs.YtoeklekjhaigoaaW.PrintWords Go.Proofs.YtoeklekjhaigoaaW.PrintLast Go.Proofs.YtoeklekjhaigoaaW.PrintMore
attribute [local go_sem] max2_int min2_int max_two min_two max_three min_three max_four min_four IntKind.wrap_u32 IntKind.wrap_u8   -- for this text's walks alone
set_option linter.unusedVariables false
open Go.Proofs.Ytoeklekjhaigoaa.Le Go.Proofs.Ytoeklekjhaigoaa.C1 Go.Proofs.Ytoeklekjhaigoaa.C2 Go.Proofs.Ytoeklekjhaigoaa.HAct Go.Proofs.Ytoeklekjhaigoaa.W0 Go.Proofs.Ytoeklekjhaigoaa.W1 Go.Proofs.Ytoeklekjhaigoaa.R01 Go.Proofs.Ytoeklekjhaigoaa.HPack Go.Proofs.Ytoeklekjhaigoaa.HUnpack Go.Proofs.Ytoeklekjhaigoaa.HRefPack Go.Proofs.Ytoeklekjhaigoaa.M0 Go.Proofs.Ytoeklekjhaigoaa.HMany Go.Proofs.Ytoeklekjhaigoaa.HCount
set_option linter.unusedSimpArgs false
def doorwardref16_Right.f (k : Nat) (a0_0 : Int) (l0_1 : List (S46)) (a0_2 : Int) (a0_3 : Int) (a0_4 : ByteArray) (a0_5 : Int) : Option (Bool) := (doorwardref15_Many.f a0_0 l0_1 a0_2 a0_3 a0_4 a0_5 100).bind fun t102 => (if t102 ≤ 100 then ((doorwardref16_fits.f k a0_0 l0_1 a0_2 a0_3 a0_4 a0_5).bind fun t103 => (some t103)) else (some false))
set_option maxHeartbeats 8000000 in
set_option maxRecDepth 100000 in
theorem doorwardref16_Right.calls (k : Nat) (a0_0 : Int) (A0_1 : Option Addr) (c0_1 : Nat) (l0_1 : List (S46)) (a0_2 : Int) (a0_3 : Int) (a0_4 : ByteArray) (a0_5 : Int) (r : Bool) (w : World) (hr0_1 : Kd.C k46 w A0_1 l0_1.length l0_1) (hc0_1 : l0_1.length ≤ c0_1) (h : doorwardref16_Right.f k a0_0 l0_1 a0_2 a0_3 a0_4 a0_5 = some r) :
    Calls Try.prog 47 #[.agg #[.int .i64 a0_0, .slice A0_1 l0_1.length c0_1, .int .i64 a0_2, .int .u64 a0_3, .string a0_4, .int .u64 a0_5]] w fun e w' => e = .returned (.bool r) ∧ Below w.heap.size w w' := by
  have hu46 := Try.underlying46
  have HR0_1 := amk hr0_1
  have HC0_1 := amk hc0_1
  clear hr0_1 hc0_1
  have HB := amk (Below.refl w.heap.size w)
  have H : ((doorwardref15_Many.f a0_0 l0_1 a0_2 a0_3 a0_4 a0_5 100).bind fun t102 => (if t102 ≤ 100 then ((doorwardref16_fits.f k a0_0 l0_1 a0_2 a0_3 a0_4 a0_5).bind fun t103 => (some t103)) else (some false))) = some r := h
  clear h
  replace H := Option.bind_eq_some_iff.mp H
  obtain ⟨t102, A20, H⟩ := H
  replace H : (if t102 ≤ 100 then ((doorwardref16_fits.f k a0_0 l0_1 a0_2 a0_3 a0_4 a0_5).bind fun t103 => (some t103)) else (some false)) = some r := H
  have A2 := amk A20
  clear A20
  by_cases c3 : t102 ≤ 100
  · rw [if_pos c3] at H
    have c3b0 : decide (t102 ≤ 100) = true := decide_eq_true c3
    clear c3
    replace H := Option.bind_eq_some_iff.mp H
    obtain ⟨t103, A40, H⟩ := H
    replace H : (some t103) = some r := H
    have A4 := amk A40
    clear A40
    obtain rfl := Option.some.inj H
    go_enter Try.func47, Try.ntmps47
    go_wp2_with (first | ((with_reducible refine gate_dst (N := 1) rfl ?_); refine box_event ?hg (N := 1) ?hd (cs := #[.int .i64 a0_0, .slice A0_1 l0_1.length c0_1, .int .i64 a0_2, .int .u64 a0_3, .string a0_4, .int .u64 a0_5]) (t := 46) ?hr ?_; (case hd => rfl); (case hg => rfl); (case hr => first | (go_simp; done) | (go_simp; rfl)); intro gb101 hg w5 hbox hb; have n0_ := amk (below_step (by repeat (first | (with_reducible first | exact HB.out | apply bal | apply pbd | apply below_drew1) | exact HB.out)) hb); have n1_ := amk (hbox); have n2_ := amk ((by rw [hg]; exact (below_size (by repeat (first | (with_reducible first | exact HB.out | apply bal | apply pbd | apply below_drew1) | exact HB.out))) : w.heap.size ≤ gb101)); have n3_ := amk ((by rw [hg]; exact (below_size (by repeat (first | (with_reducible first | exact HB.out | apply bal | apply pbd | apply below_drew1) | exact HB.out))) : w.heap.size ≤ gb101)); clear HB; have HB := n0_; have BK101 := n1_; have GW101 := n2_; have GE101 := n3_; clear n0_ n1_ n2_ n3_; clear hb hbox hg; have hcz6_0 : w5.cell? ⟨gb101, 0, none⟩ = some (.int .i64 a0_0) := (blk_cell BK101.out 0).trans rfl; have hcz6_1 : w5.cell? ⟨gb101, 1, none⟩ = some (.slice A0_1 l0_1.length c0_1) := (blk_cell BK101.out 1).trans rfl; have hcz6_2 : w5.cell? ⟨gb101, 2, none⟩ = some (.int .i64 a0_2) := (blk_cell BK101.out 2).trans rfl; have hcz6_3 : w5.cell? ⟨gb101, 3, none⟩ = some (.int .u64 a0_3) := (blk_cell BK101.out 3).trans rfl; have hcz6_4 : w5.cell? ⟨gb101, 4, none⟩ = some (.string a0_4) := (blk_cell BK101.out 4).trans rfl; have hcz6_5 : w5.cell? ⟨gb101, 5, none⟩ = some (.int .u64 a0_5) := (blk_cell BK101.out 5).trans rfl; have hfz6_0 := blk_frozen BK101.out 0; have hfz6_1 := blk_frozen BK101.out 1; have hfz6_2 := blk_frozen BK101.out 2; have hfz6_3 := blk_frozen BK101.out 3; have hfz6_4 := blk_frozen BK101.out 4; have hfz6_5 := blk_frozen BK101.out 5) | ((with_reducible refine gate_callee (f := 43) rfl ?_); refine goesL_ (some 4) rfl rfl Try.func43 (by kernel_rfl) rfl #[.agg #[.int .i64 a0_0, .slice A0_1 l0_1.length c0_1, .int .i64 a0_2, .int .u64 a0_3, .string a0_4, .int .u64 a0_5], .int .i64 100] rfl (by (try simp only [List.map_toArray, List.map_cons, List.map_nil]); first | done | rfl | (simp only [List.length_drop, List.length_take]; rfl)) ?_; (with_reducible refine (doorwardref15_Many.calls a0_0 _ _ l0_1 a0_2 a0_3 a0_4 a0_5 100 t102 _ ?side1 ?side2 A2.out).mono ?_); (case side1 => repeat (first | exact (Kd.C_below HR0_1.out HB.out) | (with_reducible refine Kd.C_alloc ?_ _) | (with_reducible refine Kd.C_drewN ?_ _) | (with_reducible refine Kd.C_drew ?_))); (case side2 => exact HC0_1.out); rintro e w7 ⟨rfl, hb⟩; refine ⟨_, rfl, ?_⟩; have n0_ := amk (blk_below (g := gb101) (o := .cells #[.int .i64 a0_0, .slice A0_1 l0_1.length c0_1, .int .i64 a0_2, .int .u64 a0_3, .string a0_4, .int .u64 a0_5] 46 (0, 0)) (by (with_reducible repeat (first | refine blk_drewN ?_ _ | refine blk_drew ?_ | refine blk_alloc ?_ _)); exact BK101.out) hb); have n1_ := amk (below_step (by repeat (first | (with_reducible first | exact HB.out | apply bal | apply pbd | apply below_drew1 | refine below_set ?_ GE101.out) | exact HB.out)) hb); clear BK101; clear HB; have BK101 := n0_; have HB := n1_; clear n0_ n1_; (try clear hb); (try clear hb2); (try clear hk); (try clear hi); have hcz8_0 : w7.cell? ⟨gb101, 0, none⟩ = some (.int .i64 a0_0) := (blk_cell BK101.out 0).trans rfl; have hcz8_1 : w7.cell? ⟨gb101, 1, none⟩ = some (.slice A0_1 l0_1.length c0_1) := (blk_cell BK101.out 1).trans rfl; have hcz8_2 : w7.cell? ⟨gb101, 2, none⟩ = some (.int .i64 a0_2) := (blk_cell BK101.out 2).trans rfl; have hcz8_3 : w7.cell? ⟨gb101, 3, none⟩ = some (.int .u64 a0_3) := (blk_cell BK101.out 3).trans rfl; have hcz8_4 : w7.cell? ⟨gb101, 4, none⟩ = some (.string a0_4) := (blk_cell BK101.out 4).trans rfl; have hcz8_5 : w7.cell? ⟨gb101, 5, none⟩ = some (.int .u64 a0_5) := (blk_cell BK101.out 5).trans rfl; have hfz8_0 := blk_frozen BK101.out 0; have hfz8_1 := blk_frozen BK101.out 1; have hfz8_2 := blk_frozen BK101.out 2; have hfz8_3 := blk_frozen BK101.out 3; have hfz8_4 := blk_frozen BK101.out 4; have hfz8_5 := blk_frozen BK101.out 5) | (go_at_call 91; (with_reducible refine (doorwardref16_fits.calls k a0_0 _ _ l0_1 a0_2 a0_3 a0_4 a0_5 t103 _ ?side1 ?side2 A4.out).mono ?_); (case side1 => repeat (first | exact (Kd.C_below HR0_1.out HB.out) | (with_reducible refine Kd.C_alloc ?_ _) | (with_reducible refine Kd.C_drewN ?_ _) | (with_reducible refine Kd.C_drew ?_))); (case side2 => exact HC0_1.out); rintro e w9 ⟨rfl, hb⟩; have n0_ := amk (blk_below (g := gb101) (o := .cells #[.int .i64 a0_0, .slice A0_1 l0_1.length c0_1, .int .i64 a0_2, .int .u64 a0_3, .string a0_4, .int .u64 a0_5] 46 (0, 0)) (by (with_reducible repeat (first | refine blk_drewN ?_ _ | refine blk_drew ?_ | refine blk_alloc ?_ _)); exact BK101.out) hb); have n1_ := amk (below_step (by repeat (first | (with_reducible first | exact HB.out | apply bal | apply pbd | apply below_drew1 | refine below_set ?_ GE101.out) | exact HB.out)) hb); clear BK101; clear HB; have BK101 := n0_; have HB := n1_; clear n0_ n1_; (try clear hb); (try clear hb2); (try clear hk); (try clear hi)))
    go_ret
    exact ⟨by first | rfl | (simp [errW_none, errW_some] <;> rfl) | (simp [*, errW_none, errW_some] <;> rfl), by repeat (first | (with_reducible first | exact HB.out | apply bal | apply pbd | apply below_drew1 | refine below_set ?_ GE101.out) | exact HB.out)⟩
  · rw [if_neg c3] at H
    have c3b0 : decide (t102 ≤ 100) = false := decide_eq_false c3
    clear c3
    obtain rfl := Option.some.inj H
    go_enter Try.func47, Try.ntmps47
    go_wp2_with (first | ((with_reducible refine gate_dst (N := 1) rfl ?_); refine box_event ?hg (N := 1) ?hd (cs := #[.int .i64 a0_0, .slice A0_1 l0_1.length c0_1, .int .i64 a0_2, .int .u64 a0_3, .string a0_4, .int .u64 a0_5]) (t := 46) ?hr ?_; (case hd => rfl); (case hg => rfl); (case hr => first | (go_simp; done) | (go_simp; rfl)); intro gb101 hg w10 hbox hb; have n0_ := amk (below_step (by repeat (first | (with_reducible first | exact HB.out | apply bal | apply pbd | apply below_drew1) | exact HB.out)) hb); have n1_ := amk (hbox); have n2_ := amk ((by rw [hg]; exact (below_size (by repeat (first | (with_reducible first | exact HB.out | apply bal | apply pbd | apply below_drew1) | exact HB.out))) : w.heap.size ≤ gb101)); have n3_ := amk ((by rw [hg]; exact (below_size (by repeat (first | (with_reducible first | exact HB.out | apply bal | apply pbd | apply below_drew1) | exact HB.out))) : w.heap.size ≤ gb101)); clear HB; have HB := n0_; have BK101 := n1_; have GW101 := n2_; have GE101 := n3_; clear n0_ n1_ n2_ n3_; clear hb hbox hg; have hcz11_0 : w10.cell? ⟨gb101, 0, none⟩ = some (.int .i64 a0_0) := (blk_cell BK101.out 0).trans rfl; have hcz11_1 : w10.cell? ⟨gb101, 1, none⟩ = some (.slice A0_1 l0_1.length c0_1) := (blk_cell BK101.out 1).trans rfl; have hcz11_2 : w10.cell? ⟨gb101, 2, none⟩ = some (.int .i64 a0_2) := (blk_cell BK101.out 2).trans rfl; have hcz11_3 : w10.cell? ⟨gb101, 3, none⟩ = some (.int .u64 a0_3) := (blk_cell BK101.out 3).trans rfl; have hcz11_4 : w10.cell? ⟨gb101, 4, none⟩ = some (.string a0_4) := (blk_cell BK101.out 4).trans rfl; have hcz11_5 : w10.cell? ⟨gb101, 5, none⟩ = some (.int .u64 a0_5) := (blk_cell BK101.out 5).trans rfl; have hfz11_0 := blk_frozen BK101.out 0; have hfz11_1 := blk_frozen BK101.out 1; have hfz11_2 := blk_frozen BK101.out 2; have hfz11_3 := blk_frozen BK101.out 3; have hfz11_4 := blk_frozen BK101.out 4; have hfz11_5 := blk_frozen BK101.out 5) | ((with_reducible refine gate_callee (f := 43) rfl ?_); refine goesL_ (some 4) rfl rfl Try.func43 (by kernel_rfl) rfl #[.agg #[.int .i64 a0_0, .slice A0_1 l0_1.length c0_1, .int .i64 a0_2, .int .u64 a0_3, .string a0_4, .int .u64 a0_5], .int .i64 100] rfl (by (try simp only [List.map_toArray, List.map_cons, List.map_nil]); first | done | rfl | (simp only [List.length_drop, List.length_take]; rfl)) ?_; (with_reducible refine (doorwardref15_Many.calls a0_0 _ _ l0_1 a0_2 a0_3 a0_4 a0_5 100 t102 _ ?side1 ?side2 A2.out).mono ?_); (case side1 => repeat (first | exact (Kd.C_below HR0_1.out HB.out) | (with_reducible refine Kd.C_alloc ?_ _) | (with_reducible refine Kd.C_drewN ?_ _) | (with_reducible refine Kd.C_drew ?_))); (case side2 => exact HC0_1.out); rintro e w12 ⟨rfl, hb⟩; refine ⟨_, rfl, ?_⟩; have n0_ := amk (blk_below (g := gb101) (o := .cells #[.int .i64 a0_0, .slice A0_1 l0_1.length c0_1, .int .i64 a0_2, .int .u64 a0_3, .string a0_4, .int .u64 a0_5] 46 (0, 0)) (by (with_reducible repeat (first | refine blk_drewN ?_ _ | refine blk_drew ?_ | refine blk_alloc ?_ _)); exact BK101.out) hb); have n1_ := amk (below_step (by repeat (first | (with_reducible first | exact HB.out | apply bal | apply pbd | apply below_drew1 | refine below_set ?_ GE101.out) | exact HB.out)) hb); clear BK101; clear HB; have BK101 := n0_; have HB := n1_; clear n0_ n1_; (try clear hb); (try clear hb2); (try clear hk); (try clear hi)))
    go_ret
    exact ⟨by first | rfl | (simp [errW_none, errW_some] <;> rfl) | (simp [*, errW_none, errW_some] <;> rfl), by repeat (first | (with_reducible first | exact HB.out | apply bal | apply pbd | apply below_drew1 | refine below_set ?_ GE101.out) | exact HB.out)⟩
def doorwardref16_Tests.f (k : Nat) (a0_0 : Int) (l0_1 : List (S46)) (a0_2 : Int) (a0_3 : Int) (a0_4 : ByteArray) (a0_5 : Int) : Option (Int) := (doorwardref16_Right.f k a0_0 l0_1 a0_2 a0_3 a0_4 a0_5).bind fun t105 => (if t105 = true then ((doorwardref16_tests.f k a0_0 l0_1 a0_2 a0_3 a0_4 a0_5).bind fun t106 => (some t106)) else (some 0))
set_option maxHeartbeats 8000000 in
set_option maxRecDepth 100000 in
theorem doorwardref16_Tests.calls (k : Nat) (a0_0 : Int) (A0_1 : Option Addr) (c0_1 : Nat) (l0_1 : List (S46)) (a0_2 : Int) (a0_3 : Int) (a0_4 : ByteArray) (a0_5 : Int) (r : Int) (w : World) (hr0_1 : Kd.C k46 w A0_1 l0_1.length l0_1) (hc0_1 : l0_1.length ≤ c0_1) (h : doorwardref16_Tests.f k a0_0 l0_1 a0_2 a0_3 a0_4 a0_5 = some r) :
    Calls Try.prog 62 #[.agg #[.int .i64 a0_0, .slice A0_1 l0_1.length c0_1, .int .i64 a0_2, .int .u64 a0_3, .string a0_4, .int .u64 a0_5]] w fun e w' => e = .returned (.int .i64 r) ∧ Below w.heap.size w w' := by
  have hu46 := Try.underlying46
  have HR0_1 := amk hr0_1
  have HC0_1 := amk hc0_1
  clear hr0_1 hc0_1
  have HB := amk (Below.refl w.heap.size w)
  have H : ((doorwardref16_Right.f k a0_0 l0_1 a0_2 a0_3 a0_4 a0_5).bind fun t105 => (if t105 = true then ((doorwardref16_tests.f k a0_0 l0_1 a0_2 a0_3 a0_4 a0_5).bind fun t106 => (some t106)) else (some 0))) = some r := h
  clear h
  replace H := Option.bind_eq_some_iff.mp H
  obtain ⟨t105, A20, H⟩ := H
  replace H : (if t105 = true then ((doorwardref16_tests.f k a0_0 l0_1 a0_2 a0_3 a0_4 a0_5).bind fun t106 => (some t106)) else (some 0)) = some r := H
  have A2 := amk A20
  clear A20
  by_cases c3 : t105 = true
  · subst c3
    have H1 : ((doorwardref16_tests.f k a0_0 l0_1 a0_2 a0_3 a0_4 a0_5).bind fun t106 => (some t106)) = some r := by rw [if_pos rfl] at H; exact H
    clear H
    have H := H1
    clear H1
    replace H := Option.bind_eq_some_iff.mp H
    obtain ⟨t106, A40, H⟩ := H
    replace H : (some t106) = some r := H
    have A4 := amk A40
    clear A40
    obtain rfl := Option.some.inj H
    go_enter Try.func62, Try.ntmps62
    go_wp2_with (first | ((with_reducible refine gate_dst (N := 1) rfl ?_); refine box_event ?hg (N := 1) ?hd (cs := #[.int .i64 a0_0, .slice A0_1 l0_1.length c0_1, .int .i64 a0_2, .int .u64 a0_3, .string a0_4, .int .u64 a0_5]) (t := 46) ?hr ?_; (case hd => rfl); (case hg => rfl); (case hr => first | (go_simp; done) | (go_simp; rfl)); intro gb104 hg w5 hbox hb; have n0_ := amk (below_step (by repeat (first | (with_reducible first | exact HB.out | apply bal | apply pbd | apply below_drew1) | exact HB.out)) hb); have n1_ := amk (hbox); have n2_ := amk ((by rw [hg]; exact (below_size (by repeat (first | (with_reducible first | exact HB.out | apply bal | apply pbd | apply below_drew1) | exact HB.out))) : w.heap.size ≤ gb104)); have n3_ := amk ((by rw [hg]; exact (below_size (by repeat (first | (with_reducible first | exact HB.out | apply bal | apply pbd | apply below_drew1) | exact HB.out))) : w.heap.size ≤ gb104)); clear HB; have HB := n0_; have BK104 := n1_; have GW104 := n2_; have GE104 := n3_; clear n0_ n1_ n2_ n3_; clear hb hbox hg; have hcz6_0 : w5.cell? ⟨gb104, 0, none⟩ = some (.int .i64 a0_0) := (blk_cell BK104.out 0).trans rfl; have hcz6_1 : w5.cell? ⟨gb104, 1, none⟩ = some (.slice A0_1 l0_1.length c0_1) := (blk_cell BK104.out 1).trans rfl; have hcz6_2 : w5.cell? ⟨gb104, 2, none⟩ = some (.int .i64 a0_2) := (blk_cell BK104.out 2).trans rfl; have hcz6_3 : w5.cell? ⟨gb104, 3, none⟩ = some (.int .u64 a0_3) := (blk_cell BK104.out 3).trans rfl; have hcz6_4 : w5.cell? ⟨gb104, 4, none⟩ = some (.string a0_4) := (blk_cell BK104.out 4).trans rfl; have hcz6_5 : w5.cell? ⟨gb104, 5, none⟩ = some (.int .u64 a0_5) := (blk_cell BK104.out 5).trans rfl; have hfz6_0 := blk_frozen BK104.out 0; have hfz6_1 := blk_frozen BK104.out 1; have hfz6_2 := blk_frozen BK104.out 2; have hfz6_3 := blk_frozen BK104.out 3; have hfz6_4 := blk_frozen BK104.out 4; have hfz6_5 := blk_frozen BK104.out 5) | ((with_reducible refine gate_callee (f := 47) rfl ?_); refine goesL_ (some 4) rfl rfl Try.func47 (by kernel_rfl) rfl #[.agg #[.int .i64 a0_0, .slice A0_1 l0_1.length c0_1, .int .i64 a0_2, .int .u64 a0_3, .string a0_4, .int .u64 a0_5]] rfl (by (try simp only [List.map_toArray, List.map_cons, List.map_nil]); first | done | rfl | (simp only [List.length_drop, List.length_take]; rfl)) ?_; (with_reducible refine (doorwardref16_Right.calls k a0_0 _ _ l0_1 a0_2 a0_3 a0_4 a0_5 true _ ?side1 ?side2 A2.out).mono ?_); (case side1 => repeat (first | exact (Kd.C_below HR0_1.out HB.out) | (with_reducible refine Kd.C_alloc ?_ _) | (with_reducible refine Kd.C_drewN ?_ _) | (with_reducible refine Kd.C_drew ?_))); (case side2 => exact HC0_1.out); rintro e w7 ⟨rfl, hb⟩; refine ⟨_, rfl, ?_⟩; have n0_ := amk (blk_below (g := gb104) (o := .cells #[.int .i64 a0_0, .slice A0_1 l0_1.length c0_1, .int .i64 a0_2, .int .u64 a0_3, .string a0_4, .int .u64 a0_5] 46 (0, 0)) (by (with_reducible repeat (first | refine blk_drewN ?_ _ | refine blk_drew ?_ | refine blk_alloc ?_ _)); exact BK104.out) hb); have n1_ := amk (below_step (by repeat (first | (with_reducible first | exact HB.out | apply bal | apply pbd | apply below_drew1 | refine below_set ?_ GE104.out) | exact HB.out)) hb); clear BK104; clear HB; have BK104 := n0_; have HB := n1_; clear n0_ n1_; (try clear hb); (try clear hb2); (try clear hk); (try clear hi); have hcz8_0 : w7.cell? ⟨gb104, 0, none⟩ = some (.int .i64 a0_0) := (blk_cell BK104.out 0).trans rfl; have hcz8_1 : w7.cell? ⟨gb104, 1, none⟩ = some (.slice A0_1 l0_1.length c0_1) := (blk_cell BK104.out 1).trans rfl; have hcz8_2 : w7.cell? ⟨gb104, 2, none⟩ = some (.int .i64 a0_2) := (blk_cell BK104.out 2).trans rfl; have hcz8_3 : w7.cell? ⟨gb104, 3, none⟩ = some (.int .u64 a0_3) := (blk_cell BK104.out 3).trans rfl; have hcz8_4 : w7.cell? ⟨gb104, 4, none⟩ = some (.string a0_4) := (blk_cell BK104.out 4).trans rfl; have hcz8_5 : w7.cell? ⟨gb104, 5, none⟩ = some (.int .u64 a0_5) := (blk_cell BK104.out 5).trans rfl; have hfz8_0 := blk_frozen BK104.out 0; have hfz8_1 := blk_frozen BK104.out 1; have hfz8_2 := blk_frozen BK104.out 2; have hfz8_3 := blk_frozen BK104.out 3; have hfz8_4 := blk_frozen BK104.out 4; have hfz8_5 := blk_frozen BK104.out 5) | ((with_reducible refine gate_callee (f := 100) rfl ?_); refine goesL_ (some 7) rfl rfl Try.func100 (by kernel_rfl) rfl #[.agg #[.int .i64 a0_0, .slice A0_1 l0_1.length c0_1, .int .i64 a0_2, .int .u64 a0_3, .string a0_4, .int .u64 a0_5]] rfl (by (try simp only [List.map_toArray, List.map_cons, List.map_nil]); first | done | rfl | (simp only [List.length_drop, List.length_take]; rfl)) ?_; (with_reducible refine (doorwardref16_tests.calls k a0_0 _ _ l0_1 a0_2 a0_3 a0_4 a0_5 t106 _ ?side1 ?side2 A4.out).mono ?_); (case side1 => repeat (first | exact (Kd.C_below HR0_1.out HB.out) | (with_reducible refine Kd.C_alloc ?_ _) | (with_reducible refine Kd.C_drewN ?_ _) | (with_reducible refine Kd.C_drew ?_))); (case side2 => exact HC0_1.out); rintro e w9 ⟨rfl, hb⟩; refine ⟨_, rfl, ?_⟩; have n0_ := amk (blk_below (g := gb104) (o := .cells #[.int .i64 a0_0, .slice A0_1 l0_1.length c0_1, .int .i64 a0_2, .int .u64 a0_3, .string a0_4, .int .u64 a0_5] 46 (0, 0)) (by (with_reducible repeat (first | refine blk_drewN ?_ _ | refine blk_drew ?_ | refine blk_alloc ?_ _)); exact BK104.out) hb); have n1_ := amk (below_step (by repeat (first | (with_reducible first | exact HB.out | apply bal | apply pbd | apply below_drew1 | refine below_set ?_ GE104.out) | exact HB.out)) hb); clear BK104; clear HB; have BK104 := n0_; have HB := n1_; clear n0_ n1_; (try clear hb); (try clear hb2); (try clear hk); (try clear hi)))
    go_ret
    exact ⟨by first | rfl | (simp [errW_none, errW_some] <;> rfl) | (simp [*, errW_none, errW_some] <;> rfl), by repeat (first | (with_reducible first | exact HB.out | apply bal | apply pbd | apply below_drew1 | refine below_set ?_ GE104.out) | exact HB.out)⟩
  · replace c3 := Bool.eq_false_iff.mpr c3
    subst c3
    have H1 : (some 0) = some r := by rw [if_neg (show ¬ (false = true) by decide)] at H; exact H
    clear H
    have H := H1
    clear H1
    obtain rfl := Option.some.inj H
    go_enter Try.func62, Try.ntmps62
    go_wp2_with (first | ((with_reducible refine gate_dst (N := 1) rfl ?_); refine box_event ?hg (N := 1) ?hd (cs := #[.int .i64 a0_0, .slice A0_1 l0_1.length c0_1, .int .i64 a0_2, .int .u64 a0_3, .string a0_4, .int .u64 a0_5]) (t := 46) ?hr ?_; (case hd => rfl); (case hg => rfl); (case hr => first | (go_simp; done) | (go_simp; rfl)); intro gb104 hg w10 hbox hb; have n0_ := amk (below_step (by repeat (first | (with_reducible first | exact HB.out | apply bal | apply pbd | apply below_drew1) | exact HB.out)) hb); have n1_ := amk (hbox); have n2_ := amk ((by rw [hg]; exact (below_size (by repeat (first | (with_reducible first | exact HB.out | apply bal | apply pbd | apply below_drew1) | exact HB.out))) : w.heap.size ≤ gb104)); have n3_ := amk ((by rw [hg]; exact (below_size (by repeat (first | (with_reducible first | exact HB.out | apply bal | apply pbd | apply below_drew1) | exact HB.out))) : w.heap.size ≤ gb104)); clear HB; have HB := n0_; have BK104 := n1_; have GW104 := n2_; have GE104 := n3_; clear n0_ n1_ n2_ n3_; clear hb hbox hg; have hcz11_0 : w10.cell? ⟨gb104, 0, none⟩ = some (.int .i64 a0_0) := (blk_cell BK104.out 0).trans rfl; have hcz11_1 : w10.cell? ⟨gb104, 1, none⟩ = some (.slice A0_1 l0_1.length c0_1) := (blk_cell BK104.out 1).trans rfl; have hcz11_2 : w10.cell? ⟨gb104, 2, none⟩ = some (.int .i64 a0_2) := (blk_cell BK104.out 2).trans rfl; have hcz11_3 : w10.cell? ⟨gb104, 3, none⟩ = some (.int .u64 a0_3) := (blk_cell BK104.out 3).trans rfl; have hcz11_4 : w10.cell? ⟨gb104, 4, none⟩ = some (.string a0_4) := (blk_cell BK104.out 4).trans rfl; have hcz11_5 : w10.cell? ⟨gb104, 5, none⟩ = some (.int .u64 a0_5) := (blk_cell BK104.out 5).trans rfl; have hfz11_0 := blk_frozen BK104.out 0; have hfz11_1 := blk_frozen BK104.out 1; have hfz11_2 := blk_frozen BK104.out 2; have hfz11_3 := blk_frozen BK104.out 3; have hfz11_4 := blk_frozen BK104.out 4; have hfz11_5 := blk_frozen BK104.out 5) | ((with_reducible refine gate_callee (f := 47) rfl ?_); refine goesL_ (some 4) rfl rfl Try.func47 (by kernel_rfl) rfl #[.agg #[.int .i64 a0_0, .slice A0_1 l0_1.length c0_1, .int .i64 a0_2, .int .u64 a0_3, .string a0_4, .int .u64 a0_5]] rfl (by (try simp only [List.map_toArray, List.map_cons, List.map_nil]); first | done | rfl | (simp only [List.length_drop, List.length_take]; rfl)) ?_; (with_reducible refine (doorwardref16_Right.calls k a0_0 _ _ l0_1 a0_2 a0_3 a0_4 a0_5 false _ ?side1 ?side2 A2.out).mono ?_); (case side1 => repeat (first | exact (Kd.C_below HR0_1.out HB.out) | (with_reducible refine Kd.C_alloc ?_ _) | (with_reducible refine Kd.C_drewN ?_ _) | (with_reducible refine Kd.C_drew ?_))); (case side2 => exact HC0_1.out); rintro e w12 ⟨rfl, hb⟩; refine ⟨_, rfl, ?_⟩; have n0_ := amk (blk_below (g := gb104) (o := .cells #[.int .i64 a0_0, .slice A0_1 l0_1.length c0_1, .int .i64 a0_2, .int .u64 a0_3, .string a0_4, .int .u64 a0_5] 46 (0, 0)) (by (with_reducible repeat (first | refine blk_drewN ?_ _ | refine blk_drew ?_ | refine blk_alloc ?_ _)); exact BK104.out) hb); have n1_ := amk (below_step (by repeat (first | (with_reducible first | exact HB.out | apply bal | apply pbd | apply below_drew1 | refine below_set ?_ GE104.out) | exact HB.out)) hb); clear BK104; clear HB; have BK104 := n0_; have HB := n1_; clear n0_ n1_; (try clear hb); (try clear hb2); (try clear hk); (try clear hi)))
    go_ret
    exact ⟨by first | rfl | (simp [errW_none, errW_some] <;> rfl) | (simp [*, errW_none, errW_some] <;> rfl), by repeat (first | (with_reducible first | exact HB.out | apply bal | apply pbd | apply below_drew1 | refine below_set ?_ GE104.out) | exact HB.out)⟩
def types_Right.f (a0_0 : Int) (l0_1 : List (S46)) (a0_2 : Int) (a0_3 : Int) (a0_4 : ByteArray) (a0_5 : Int) : Option (Bool) := (types_count.f a0_0 l0_1 a0_2 a0_3 a0_4 a0_5).bind fun bt108 => (some bt108.2)
set_option maxHeartbeats 8000000 in
set_option maxRecDepth 100000 in
theorem types_Right.calls (a0_0 : Int) (A0_1 : Option Addr) (c0_1 : Nat) (l0_1 : List (S46)) (a0_2 : Int) (a0_3 : Int) (a0_4 : ByteArray) (a0_5 : Int) (r : Bool) (w : World) (hr0_1 : Kd.C k46 w A0_1 l0_1.length l0_1) (hc0_1 : l0_1.length ≤ c0_1) (h : types_Right.f a0_0 l0_1 a0_2 a0_3 a0_4 a0_5 = some r) :
    Calls Try.prog 65 #[.agg #[.int .i64 a0_0, .slice A0_1 l0_1.length c0_1, .int .i64 a0_2, .int .u64 a0_3, .string a0_4, .int .u64 a0_5]] w fun e w' => e = .returned (.bool r) ∧ Below w.heap.size w w' := by
  have hu46 := Try.underlying46
  have HR0_1 := amk hr0_1
  have HC0_1 := amk hc0_1
  clear hr0_1 hc0_1
  have HB := amk (Below.refl w.heap.size w)
  have H : ((types_count.f a0_0 l0_1 a0_2 a0_3 a0_4 a0_5).bind fun bt108 => (some bt108.2)) = some r := h
  clear h
  replace H := Option.bind_eq_some_iff.mp H
  obtain ⟨⟨t108, t109⟩, A20, H⟩ := H
  replace H : (some t109) = some r := H
  have A2 := amk A20
  clear A20
  obtain rfl := Option.some.inj H
  go_enter Try.func65, Try.ntmps65
  go_wp2_with (first | ((with_reducible refine gate_dst (N := 1) rfl ?_); refine box_event ?hg (N := 1) ?hd (cs := #[.int .i64 a0_0, .slice A0_1 l0_1.length c0_1, .int .i64 a0_2, .int .u64 a0_3, .string a0_4, .int .u64 a0_5]) (t := 46) ?hr ?_; (case hd => rfl); (case hg => rfl); (case hr => first | (go_simp; done) | (go_simp; rfl)); intro gb107 hg w3 hbox hb; have n0_ := amk (below_step (by repeat (first | (with_reducible first | exact HB.out | apply bal | apply pbd | apply below_drew1) | exact HB.out)) hb); have n1_ := amk (hbox); have n2_ := amk ((by rw [hg]; exact (below_size (by repeat (first | (with_reducible first | exact HB.out | apply bal | apply pbd | apply below_drew1) | exact HB.out))) : w.heap.size ≤ gb107)); have n3_ := amk ((by rw [hg]; exact (below_size (by repeat (first | (with_reducible first | exact HB.out | apply bal | apply pbd | apply below_drew1) | exact HB.out))) : w.heap.size ≤ gb107)); clear HB; have HB := n0_; have BK107 := n1_; have GW107 := n2_; have GE107 := n3_; clear n0_ n1_ n2_ n3_; clear hb hbox hg; have hcz4_0 : w3.cell? ⟨gb107, 0, none⟩ = some (.int .i64 a0_0) := (blk_cell BK107.out 0).trans rfl; have hcz4_1 : w3.cell? ⟨gb107, 1, none⟩ = some (.slice A0_1 l0_1.length c0_1) := (blk_cell BK107.out 1).trans rfl; have hcz4_2 : w3.cell? ⟨gb107, 2, none⟩ = some (.int .i64 a0_2) := (blk_cell BK107.out 2).trans rfl; have hcz4_3 : w3.cell? ⟨gb107, 3, none⟩ = some (.int .u64 a0_3) := (blk_cell BK107.out 3).trans rfl; have hcz4_4 : w3.cell? ⟨gb107, 4, none⟩ = some (.string a0_4) := (blk_cell BK107.out 4).trans rfl; have hcz4_5 : w3.cell? ⟨gb107, 5, none⟩ = some (.int .u64 a0_5) := (blk_cell BK107.out 5).trans rfl; have hfz4_0 := blk_frozen BK107.out 0; have hfz4_1 := blk_frozen BK107.out 1; have hfz4_2 := blk_frozen BK107.out 2; have hfz4_3 := blk_frozen BK107.out 3; have hfz4_4 := blk_frozen BK107.out 4; have hfz4_5 := blk_frozen BK107.out 5) | ((with_reducible refine gate_callee (f := 101) rfl ?_); refine goesL_ (some 7) rfl rfl Try.func101 (by kernel_rfl) rfl #[.agg #[.int .i64 a0_0, .slice A0_1 l0_1.length c0_1, .int .i64 a0_2, .int .u64 a0_3, .string a0_4, .int .u64 a0_5]] rfl (by (try simp only [List.map_toArray, List.map_cons, List.map_nil]); first | done | rfl | (simp only [List.length_drop, List.length_take]; rfl)) ?_; (with_reducible refine (types_count.calls a0_0 _ _ l0_1 a0_2 a0_3 a0_4 a0_5 t108 t109 _ ?side1 ?side2 A2.out).mono ?_); (case side1 => repeat (first | exact (Kd.C_below HR0_1.out HB.out) | (with_reducible refine Kd.C_alloc ?_ _) | (with_reducible refine Kd.C_drewN ?_ _) | (with_reducible refine Kd.C_drew ?_))); (case side2 => exact HC0_1.out); rintro e w5 ⟨rfl, hb⟩; refine ⟨_, rfl, ?_⟩; have n0_ := amk (blk_below (g := gb107) (o := .cells #[.int .i64 a0_0, .slice A0_1 l0_1.length c0_1, .int .i64 a0_2, .int .u64 a0_3, .string a0_4, .int .u64 a0_5] 46 (0, 0)) (by (with_reducible repeat (first | refine blk_drewN ?_ _ | refine blk_drew ?_ | refine blk_alloc ?_ _)); exact BK107.out) hb); have n1_ := amk (below_step (by repeat (first | (with_reducible first | exact HB.out | apply bal | apply pbd | apply below_drew1 | refine below_set ?_ GE107.out) | exact HB.out)) hb); clear BK107; clear HB; have BK107 := n0_; have HB := n1_; clear n0_ n1_; (try clear hb); (try clear hb2); (try clear hk); (try clear hi)))
  go_ret
  exact ⟨by first | rfl | (simp [errW_none, errW_some] <;> rfl) | (simp [*, errW_none, errW_some] <;> rfl), by repeat (first | (with_reducible first | exact HB.out | apply bal | apply pbd | apply below_drew1 | refine below_set ?_ GE107.out) | exact HB.out)⟩
def types_Tests.f (a0_0 : Int) (l0_1 : List (S46)) (a0_2 : Int) (a0_3 : Int) (a0_4 : ByteArray) (a0_5 : Int) : Option (Int) := (types_count.f a0_0 l0_1 a0_2 a0_3 a0_4 a0_5).bind fun bt111 => (some bt111.1)
set_option maxHeartbeats 8000000 in
set_option maxRecDepth 100000 in
theorem types_Tests.calls (a0_0 : Int) (A0_1 : Option Addr) (c0_1 : Nat) (l0_1 : List (S46)) (a0_2 : Int) (a0_3 : Int) (a0_4 : ByteArray) (a0_5 : Int) (r : Int) (w : World) (hr0_1 : Kd.C k46 w A0_1 l0_1.length l0_1) (hc0_1 : l0_1.length ≤ c0_1) (h : types_Tests.f a0_0 l0_1 a0_2 a0_3 a0_4 a0_5 = some r) :
    Calls Try.prog 66 #[.agg #[.int .i64 a0_0, .slice A0_1 l0_1.length c0_1, .int .i64 a0_2, .int .u64 a0_3, .string a0_4, .int .u64 a0_5]] w fun e w' => e = .returned (.int .i64 r) ∧ Below w.heap.size w w' := by
  have hu46 := Try.underlying46
  have HR0_1 := amk hr0_1
  have HC0_1 := amk hc0_1
  clear hr0_1 hc0_1
  have HB := amk (Below.refl w.heap.size w)
  have H : ((types_count.f a0_0 l0_1 a0_2 a0_3 a0_4 a0_5).bind fun bt111 => (some bt111.1)) = some r := h
  clear h
  replace H := Option.bind_eq_some_iff.mp H
  obtain ⟨⟨t111, t112⟩, A20, H⟩ := H
  replace H : (some t111) = some r := H
  have A2 := amk A20
  clear A20
  obtain rfl := Option.some.inj H
  go_enter Try.func66, Try.ntmps66
  go_wp2_with (first | ((with_reducible refine gate_dst (N := 1) rfl ?_); refine box_event ?hg (N := 1) ?hd (cs := #[.int .i64 a0_0, .slice A0_1 l0_1.length c0_1, .int .i64 a0_2, .int .u64 a0_3, .string a0_4, .int .u64 a0_5]) (t := 46) ?hr ?_; (case hd => rfl); (case hg => rfl); (case hr => first | (go_simp; done) | (go_simp; rfl)); intro gb110 hg w3 hbox hb; have n0_ := amk (below_step (by repeat (first | (with_reducible first | exact HB.out | apply bal | apply pbd | apply below_drew1) | exact HB.out)) hb); have n1_ := amk (hbox); have n2_ := amk ((by rw [hg]; exact (below_size (by repeat (first | (with_reducible first | exact HB.out | apply bal | apply pbd | apply below_drew1) | exact HB.out))) : w.heap.size ≤ gb110)); have n3_ := amk ((by rw [hg]; exact (below_size (by repeat (first | (with_reducible first | exact HB.out | apply bal | apply pbd | apply below_drew1) | exact HB.out))) : w.heap.size ≤ gb110)); clear HB; have HB := n0_; have BK110 := n1_; have GW110 := n2_; have GE110 := n3_; clear n0_ n1_ n2_ n3_; clear hb hbox hg; have hcz4_0 : w3.cell? ⟨gb110, 0, none⟩ = some (.int .i64 a0_0) := (blk_cell BK110.out 0).trans rfl; have hcz4_1 : w3.cell? ⟨gb110, 1, none⟩ = some (.slice A0_1 l0_1.length c0_1) := (blk_cell BK110.out 1).trans rfl; have hcz4_2 : w3.cell? ⟨gb110, 2, none⟩ = some (.int .i64 a0_2) := (blk_cell BK110.out 2).trans rfl; have hcz4_3 : w3.cell? ⟨gb110, 3, none⟩ = some (.int .u64 a0_3) := (blk_cell BK110.out 3).trans rfl; have hcz4_4 : w3.cell? ⟨gb110, 4, none⟩ = some (.string a0_4) := (blk_cell BK110.out 4).trans rfl; have hcz4_5 : w3.cell? ⟨gb110, 5, none⟩ = some (.int .u64 a0_5) := (blk_cell BK110.out 5).trans rfl; have hfz4_0 := blk_frozen BK110.out 0; have hfz4_1 := blk_frozen BK110.out 1; have hfz4_2 := blk_frozen BK110.out 2; have hfz4_3 := blk_frozen BK110.out 3; have hfz4_4 := blk_frozen BK110.out 4; have hfz4_5 := blk_frozen BK110.out 5) | ((with_reducible refine gate_callee (f := 101) rfl ?_); refine goesL_ (some 7) rfl rfl Try.func101 (by kernel_rfl) rfl #[.agg #[.int .i64 a0_0, .slice A0_1 l0_1.length c0_1, .int .i64 a0_2, .int .u64 a0_3, .string a0_4, .int .u64 a0_5]] rfl (by (try simp only [List.map_toArray, List.map_cons, List.map_nil]); first | done | rfl | (simp only [List.length_drop, List.length_take]; rfl)) ?_; (with_reducible refine (types_count.calls a0_0 _ _ l0_1 a0_2 a0_3 a0_4 a0_5 t111 t112 _ ?side1 ?side2 A2.out).mono ?_); (case side1 => repeat (first | exact (Kd.C_below HR0_1.out HB.out) | (with_reducible refine Kd.C_alloc ?_ _) | (with_reducible refine Kd.C_drewN ?_ _) | (with_reducible refine Kd.C_drew ?_))); (case side2 => exact HC0_1.out); rintro e w5 ⟨rfl, hb⟩; refine ⟨_, rfl, ?_⟩; have n0_ := amk (blk_below (g := gb110) (o := .cells #[.int .i64 a0_0, .slice A0_1 l0_1.length c0_1, .int .i64 a0_2, .int .u64 a0_3, .string a0_4, .int .u64 a0_5] 46 (0, 0)) (by (with_reducible repeat (first | refine blk_drewN ?_ _ | refine blk_drew ?_ | refine blk_alloc ?_ _)); exact BK110.out) hb); have n1_ := amk (below_step (by repeat (first | (with_reducible first | exact HB.out | apply bal | apply pbd | apply below_drew1 | refine below_set ?_ GE110.out) | exact HB.out)) hb); clear BK110; clear HB; have BK110 := n0_; have HB := n1_; clear n0_ n1_; (try clear hb); (try clear hb2); (try clear hk); (try clear hi)))
  go_ret
  exact ⟨by first | rfl | (simp [errW_none, errW_some] <;> rfl) | (simp [*, errW_none, errW_some] <;> rfl), by repeat (first | (with_reducible first | exact HB.out | apply bal | apply pbd | apply below_drew1 | refine below_set ?_ GE110.out) | exact HB.out)⟩
end Go.Proofs.Ytoeklekjhaigoaa.M1
end
section
namespace Go.Proofs.Ytoeklekjhaigoaa.M2
open Go.Proofs.Ytoeklekjhaigoaa.Al Go.RowKit Go.Proofs.YtoeklekjhaigoaaW.PrintWords Go.Proofs.YtoeklekjhaigoaaW.PrintLast Go.Proofs.YtoeklekjhaigoaaW.PrintMore
attribute [local go_sem] max2_int min2_int max_two min_two max_three min_three max_four min_four IntKind.wrap_u32 IntKind.wrap_u8   -- for this text's walks alone
set_option linter.unusedVariables false
open Go.Proofs.Ytoeklekjhaigoaa.Le Go.Proofs.Ytoeklekjhaigoaa.C1 Go.Proofs.Ytoeklekjhaigoaa.C2 Go.Proofs.Ytoeklekjhaigoaa.HAct Go.Proofs.Ytoeklekjhaigoaa.W0 Go.Proofs.Ytoeklekjhaigoaa.W1 Go.Proofs.Ytoeklekjhaigoaa.R01 Go.Proofs.Ytoeklekjhaigoaa.HPack Go.Proofs.Ytoeklekjhaigoaa.HUnpack Go.Proofs.Ytoeklekjhaigoaa.HRefPack Go.Proofs.Ytoeklekjhaigoaa.M0 Go.Proofs.Ytoeklekjhaigoaa.HMany Go.Proofs.Ytoeklekjhaigoaa.HCount Go.Proofs.Ytoeklekjhaigoaa.M1
set_option linter.unusedSimpArgs false
def errW : Option Int → Value
  | none => .nilIface
  | some c => .iface 0 (.int .i64 c)
theorem errW_none : errW none = .nilIface := rfl
theorem errW_some (c : Int) : errW (some c) = .iface 0 (.int .i64 c) := rfl
end Go.Proofs.Ytoeklekjhaigoaa.M2
end
section
namespace Go.Proofs.Ytoeklekjhaigoaa.Open
open Go.Proofs.Ytoeklekjhaigoaa.Al Go.RowKit Go.Proofs.YtoeklekjhaigoaaW.PrintWords
set_option linter.unusedVariables false
set_option linter.unusedSimpArgs false
variable {α β : Type}
/-- A reading (of so much fuel at most) of cells at type t tells a value of kind d, of which Q. -/
def OpensN (P : Program) (fuel : Nat) (d : Kd α) (t : TypeId) (Q : α → Prop) : Prop :=
  P.cellsOf t = d.sz ∧ ∀ (H : Type) (enc : TypeId × Value → H) (W : World) (cs : List Value) (x : DataW H × List MemPlace),
    DataW.trod enc P W 0 (fun _ => true) true fuel t cs = some x → ∃ y, d.K W y cs ∧ Q y
def Opens (P : Program) (d : Kd α) (t : TypeId) (Q : α → Prop) : Prop := ∀ fuel, OpensN P fuel d t Q
section
variable {P : Program} {t e : TypeId} {d : Kd α} {Q : α → Prop} {fuel : Nat}
theorem OpensN.none (h : P.cellsOf t = d.sz) : OpensN P 0 d t Q := ⟨h, fun H enc W cs x hx => by simp [DataW.trod] at hx⟩
theorem one_cell {H : Type} {enc : TypeId × Value → H} {W : World} {cs : List Value} {x : DataW H × List MemPlace} {u : TypeDesc} (hu : P.underlying t = some u) (h1 : (match u with | .struct _ | .array _ _ => true | _ => false) = false)
    (hx : DataW.trod enc P W 0 (fun _ => true) true (fuel + 1) t cs = some x) : ∃ c, cs = [c] := by
  unfold DataW.trod at hx
  rcases cs with _ | ⟨c, _ | ⟨c2, r⟩⟩
  · cases u <;> simp [hu] at hx h1
  · exact ⟨c, rfl⟩
  · cases u <;> simp [hu] at hx h1
theorem Opens.int (k : IntKind) (hu : P.underlying t = some (.int k)) (hc : P.cellsOf t = 1) : Opens P (Kd.int k) t (fun x => (Lit.int k x).wf = true) := by
  intro fuel
  cases fuel with
  | zero => exact OpensN.none hc
  | succ fuel =>
    refine ⟨hc, fun H enc W cs x hx => ?_⟩
    obtain ⟨c, rfl⟩ := one_cell hu rfl hx
    unfold DataW.trod at hx
    cases c <;> simp [hu] at hx
    rename_i k' n
    obtain ⟨⟨rfl, hw⟩, _⟩ := hx
    exact ⟨n, rfl, hw⟩
theorem Opens.bool (hu : P.underlying t = some .bool) (hc : P.cellsOf t = 1) : Opens P Kd.bool t (fun _ => True) := by
  intro fuel
  cases fuel with
  | zero => exact OpensN.none hc
  | succ fuel =>
    refine ⟨hc, fun H enc W cs x hx => ?_⟩
    obtain ⟨c, rfl⟩ := one_cell hu rfl hx
    unfold DataW.trod at hx
    cases c <;> simp [hu] at hx
    rename_i b
    exact ⟨b, rfl, trivial⟩
theorem Opens.string (hu : P.underlying t = some .string) (hc : P.cellsOf t = 1) : Opens P Kd.string t (fun s => s.size ≤ maxLen) := by
  intro fuel
  cases fuel with
  | zero => exact OpensN.none hc
  | succ fuel =>
    refine ⟨hc, fun H enc W cs x hx => ?_⟩
    obtain ⟨c, rfl⟩ := one_cell hu rfl hx
    unfold DataW.trod at hx
    cases c <;> simp [hu] at hx
    rename_i s
    exact ⟨s, rfl, hx.1⟩
/-- The cells of a slice. -/
theorem slice_cell {H : Type} {enc : TypeId × Value → H} {W : World} {cs : List Value} {x : DataW H × List MemPlace} (hu : P.underlying t = some (.slice e)) (hx : DataW.trod enc P W 0 (fun _ => true) true (fuel + 1) t cs = some x) :
    cs = [.slice none 0 0] ∨ ∃ a len cap, cs = [.slice (some a) len cap] ∧ len ≤ cap ∧ cap ≤ maxLen ∧
      ∃ els rest, (List.range len).mapM (fun i => (W.cells? 0 (a.add (i * P.cellsOf e)) (P.cellsOf e)).bind (DataW.trod enc P W 0 (fun _ => true) true fuel e)) = some els ∧ x.1 = .slice (els.map (·.1)) rest := by
  obtain ⟨c, rfl⟩ := one_cell hu rfl hx
  unfold DataW.trod at hx
  cases c <;> try (simp [hu] at hx; done)
  rename_i A len cap
  cases A with
  | none =>
    by_cases h0 : len = 0 ∧ cap = 0
    · obtain ⟨rfl, rfl⟩ := h0
      exact .inl rfl
    · exfalso
      rcases len with _ | len <;> rcases cap with _ | cap <;> simp [hu] at hx h0
  | some a =>
    right
    simp only [hu] at hx
    split at hx
    · rename_i hcnd
      rw [Option.bind_eq_some_iff] at hx
      obtain ⟨els, hels, hx⟩ := hx
      rw [Option.map_eq_some_iff] at hx
      obtain ⟨rest, _, hx⟩ := hx
      exact ⟨a, len, cap, rfl, hcnd.2.1, hcnd.2.2, els, rest.map (·.1), hels, by rw [← hx]⟩
    · simp at hx
theorem OpensN.slice (hu : P.underlying t = some (.slice e)) (hc : P.cellsOf t = 1) (h : OpensN P fuel d e Q) : OpensN P (fuel + 1) (Kd.slice e d) t (fun xs => xs.length ≤ maxLen ∧ ∀ x ∈ xs, Q x) := by
  obtain ⟨hsz, h⟩ := h
  refine ⟨hc, fun H enc W cs x hx => ?_⟩
  rcases slice_cell hu hx with rfl | ⟨a, len, cap, rfl, hlc, hcm, els, rest, hels, _⟩
  · refine ⟨[], ⟨Option.none, 0, rfl, Nat.le_refl _, ?_⟩, by simp, by simp⟩
    exact ⟨rfl, by simp, fun h => absurd h (by simp)⟩
  · skip
    · skip
      have hlen : els.length = len := by simpa using mapM_some_length hels
      have hget := fun i (hi : i < len) => mapM_some_get hels i i (by simp [hi])
      have hall : ∀ i, i < len → ∃ (y : α) (c : List Value), d.K W y c ∧ Q y ∧ c.length = d.sz ∧ ∀ j u, c[j]? = some u → W.cell? (a.add (i * d.sz + j)) = some u := by
        intro i hi
        have hi2 := hget i hi
        rw [List.getElem?_eq_getElem (by omega : i < els.length), Option.bind_eq_some_iff] at hi2
        obtain ⟨c, hcs, hr⟩ := hi2
        obtain ⟨y, hy, hq⟩ := h H enc W c _ hr
        obtain ⟨_, hcl, hcell⟩ := World.cells?_some hcs
        refine ⟨y, c, hy, hq, d.K_len hy, fun j u hj => ?_⟩
        have hjl : j < P.cellsOf e := by
          have : j < c.length := by
            rcases Nat.lt_or_ge j c.length with hlt | hge
            · exact hlt
            · rw [List.getElem?_eq_none hge] at hj; simp at hj
          omega
        have := hcell j hjl
        rw [hj, hsz, Addr.add_add] at this
        exact this
      obtain ⟨ys, hys⟩ : ∃ ys : List α, ys.length = len ∧ ∀ i (hi : i < ys.length), (∃ c : List Value, d.K W ys[i] c ∧ Q ys[i] ∧ c.length = d.sz ∧ ∀ j u, c[j]? = some u → W.cell? (a.add (i * d.sz + j)) = some u) := by
        clear hels hget hlen hlc hcm hx
        induction len with
        | zero => exact ⟨[], rfl, fun i hi => absurd hi (by simp)⟩
        | succ n ih =>
          obtain ⟨ys, hl, hy⟩ := ih (fun i hi => hall i (by omega))
          obtain ⟨y, c, hk, hq, hcl, hcc⟩ := hall n (by omega)
          refine ⟨ys ++ [y], by simp [hl], fun i hi => ?_⟩
          by_cases hin : i < ys.length
          · have := hy i hin
            rw [List.getElem_append_left hin]
            exact this
          · have hie : i = n := by simp at hi; omega
            subst hie
            rw [List.getElem_append_right (by omega)]
            simp only [hl, Nat.sub_self, List.getElem_cons_zero]
            exact ⟨c, hk, hq, hcl, hcc⟩
      obtain ⟨hyl, hy⟩ := hys
      refine ⟨ys, ⟨some a, cap, by rw [hyl], by omega, ?_⟩, by omega, ?_⟩
      · refine ⟨rfl, by rw [hyl]; exact Nat.le_trans hlc hcm, fun _ => ⟨a, rfl, fun j p hj => ?_⟩⟩
        have hjl : j < ys.length := by
          rcases Nat.lt_or_ge j ys.length with hlt | hge
          · exact hlt
          · rw [List.getElem?_eq_none hge] at hj; simp at hj
        obtain ⟨c, hk, hq, hcl, hcc⟩ := hy j hjl
        rw [List.getElem?_eq_getElem hjl] at hj
        obtain rfl := Option.some.inj hj
        exact ⟨c, hcl, hk, hcc⟩
      · intro x hx
        obtain ⟨i, hi, rfl⟩ := List.getElem_of_mem hx
        obtain ⟨c, hk, hq, _⟩ := hy i hi
        exact hq
theorem Opens.slice (hu : P.underlying t = some (.slice e)) (hc : P.cellsOf t = 1) (h : Opens P d e Q) : Opens P (Kd.slice e d) t (fun xs => xs.length ≤ maxLen ∧ ∀ x ∈ xs, Q x) := by
  intro fuel
  cases fuel with
  | zero => exact OpensN.none hc
  | succ fuel => exact OpensN.slice hu hc (h fuel)
end
/-- The fields from one on, read one by one, tell a value of kind d out of the cells from o on. -/
def OpensF (P : Program) (fuel : Nat) (fs : List Field) (o : Nat) (d : Kd α) (Q : α → Prop) : Prop :=
  ∀ (H : Type) (enc : TypeId × Value → H) (W : World) (cs : List Value) (xs : List (DataW H × List MemPlace)),
    (fs.mapM fun f => DataW.trod enc P W 0 (fun _ => true) true fuel f.type ((cs.drop f.offset).take (P.cellsOf f.type))) = some xs → cs.length = o + d.sz → ∃ y, d.K W y (cs.drop o) ∧ Q y
section
variable {P : Program} {t : TypeId} {a : Kd α} {b : Kd β} {Q : α → Prop} {R : β → Prop} {fuel o : Nat} {f : Field} {fs : List Field}
theorem OpensF.last (ho : f.offset = o) (h : OpensN P fuel a f.type Q) : OpensF P fuel [f] o a Q := by
  intro H enc W cs xs hx hl
  simp only [List.mapM_cons, List.mapM_nil] at hx
  rw [Option.bind_eq_bind, Option.bind_eq_some_iff] at hx
  obtain ⟨y, hy, _⟩ := hx
  rw [ho, h.1, List.take_of_length_le (by rw [List.length_drop]; omega)] at hy
  exact h.2 H enc W _ _ hy
theorem OpensF.cons (ho : f.offset = o) (h : OpensN P fuel a f.type Q) (hs : OpensF P fuel fs (o + a.sz) b R) : OpensF P fuel (f :: fs) o (Kd.pair a b) (fun x => Q x.1 ∧ R x.2) := by
  intro H enc W cs xs hx hl
  simp only [List.mapM_cons] at hx
  rw [Option.bind_eq_bind, Option.bind_eq_some_iff] at hx
  obtain ⟨y, hy, hx⟩ := hx
  rw [Option.bind_eq_bind, Option.bind_eq_some_iff] at hx
  obtain ⟨ys, hys, _⟩ := hx
  rw [ho, h.1] at hy
  obtain ⟨u, hu, hq⟩ := h.2 H enc W _ _ hy
  obtain ⟨v, hv, hr⟩ := hs H enc W cs ys hys (by have : (Kd.pair a b).sz = a.sz + b.sz := rfl; omega)
  refine ⟨(u, v), ⟨(cs.drop o).take a.sz, (cs.drop o).drop a.sz, (List.take_append_drop _ _).symm, hu, ?_⟩, hq, hr⟩
  rw [List.drop_drop]
  exact hv
theorem OpensF.iso {γ : Type} (g : γ → α) (inv : α → γ) (hg : ∀ x, g (inv x) = x) (h : OpensF P fuel fs o a Q) : OpensF P fuel fs o (Kd.iso a g) (fun x => Q (g x)) := by
  intro H enc W cs xs hx hl
  obtain ⟨y, hy, hq⟩ := h H enc W cs xs hx hl
  exact ⟨inv y, by show a.K W (g (inv y)) _; rw [hg]; exact hy, by show Q (g (inv y)); rw [hg]; exact hq⟩
theorem OpensN.struct {gs : Array Field} (hu : P.underlying t = some (.struct gs)) (hc : P.cellsOf t = a.sz) (h : OpensF P fuel gs.toList 0 a Q) : OpensN P (fuel + 1) a t Q := by
  refine ⟨hc, fun H enc W cs x hx => ?_⟩
  have hx2 : (if cs.length = P.cellsOf t then (gs.toList.mapM fun f => DataW.trod enc P W 0 (fun _ => true) true fuel f.type ((cs.drop f.offset).take (P.cellsOf f.type))).map fun xs => (DataW.agg (xs.map (·.1)), xs.flatMap (·.2)) else Option.none) = some x := by
    rw [← hx]
    conv => rhs; unfold DataW.trod
    simp only [hu]
  split at hx2
  · rename_i hl
    rw [Option.map_eq_some_iff] at hx2
    obtain ⟨xs, hxs, _⟩ := hx2
    have := h H enc W cs xs hxs (by omega)
    simpa using this
  · simp at hx2
/-- The places of an array, read one by one. -/
def OpensA (P : Program) (fuel : Nat) (e : TypeId) (is : List Nat) (o : Nat) (d : Kd α) (Q : α → Prop) : Prop :=
  ∀ (H : Type) (enc : TypeId × Value → H) (W : World) (cs : List Value) (xs : List (DataW H × List MemPlace)),
    (is.mapM fun i => DataW.trod enc P W 0 (fun _ => true) true fuel e ((cs.drop (i * P.cellsOf e)).take (P.cellsOf e))) = some xs → cs.length = o + d.sz → ∃ y, d.K W y (cs.drop o) ∧ Q y
theorem OpensA.last {e : TypeId} {i : Nat} (ho : i * P.cellsOf e = o) (h : OpensN P fuel a e Q) : OpensA P fuel e [i] o a Q := by
  intro H enc W cs xs hx hl
  simp only [List.mapM_cons, List.mapM_nil] at hx
  rw [Option.bind_eq_bind, Option.bind_eq_some_iff] at hx
  obtain ⟨y, hy, _⟩ := hx
  rw [ho, h.1, List.take_of_length_le (by rw [List.length_drop]; omega)] at hy
  exact h.2 H enc W _ _ hy
theorem OpensA.cons {e : TypeId} {i : Nat} {is : List Nat} (ho : i * P.cellsOf e = o) (h : OpensN P fuel a e Q) (hs : OpensA P fuel e is (o + a.sz) b R) : OpensA P fuel e (i :: is) o (Kd.pair a b) (fun x => Q x.1 ∧ R x.2) := by
  intro H enc W cs xs hx hl
  simp only [List.mapM_cons] at hx
  rw [Option.bind_eq_bind, Option.bind_eq_some_iff] at hx
  obtain ⟨y, hy, hx⟩ := hx
  rw [Option.bind_eq_bind, Option.bind_eq_some_iff] at hx
  obtain ⟨ys, hys, _⟩ := hx
  rw [ho, h.1] at hy
  obtain ⟨u, hu, hq⟩ := h.2 H enc W _ _ hy
  obtain ⟨v, hv, hr⟩ := hs H enc W cs ys hys (by have : (Kd.pair a b).sz = a.sz + b.sz := rfl; omega)
  refine ⟨(u, v), ⟨(cs.drop o).take a.sz, (cs.drop o).drop a.sz, (List.take_append_drop _ _).symm, hu, ?_⟩, hq, hr⟩
  rw [List.drop_drop]
  exact hv
theorem OpensA.iso {γ : Type} {e : TypeId} {is : List Nat} (g : γ → α) (inv : α → γ) (hg : ∀ x, g (inv x) = x) (h : OpensA P fuel e is o a Q) : OpensA P fuel e is o (Kd.iso a g) (fun x => Q (g x)) := by
  intro H enc W cs xs hx hl
  obtain ⟨y, hy, hq⟩ := h H enc W cs xs hx hl
  exact ⟨inv y, by show a.K W (g (inv y)) _; rw [hg]; exact hy, by show Q (g (inv y)); rw [hg]; exact hq⟩
theorem OpensN.array {n : Nat} {e : TypeId} (hu : P.underlying t = some (.array n e)) (hc : P.cellsOf t = a.sz) (h : OpensA P fuel e (List.range n) 0 a Q) : OpensN P (fuel + 1) a t Q := by
  refine ⟨hc, fun H enc W cs x hx => ?_⟩
  have hx2 : (if cs.length = P.cellsOf t then ((List.range n).mapM fun i => DataW.trod enc P W 0 (fun _ => true) true fuel e ((cs.drop (i * P.cellsOf e)).take (P.cellsOf e))).map fun xs => (DataW.agg (xs.map (·.1)), xs.flatMap (·.2)) else Option.none) = some x := by
    rw [← hx]
    conv => rhs; unfold DataW.trod
    simp only [hu]
  split at hx2
  · rename_i hl
    rw [Option.map_eq_some_iff] at hx2
    obtain ⟨xs, hxs, _⟩ := hx2
    have := h H enc W cs xs hxs (by omega)
    simpa using this
  · simp at hx2
end
section
variable {P : Program} {t e : TypeId} {d : Kd α} {Q : α → Prop} {H : Type} {enc : TypeId × Value → H} {W : World} {D : DataW H} {p : List MemPlace} {v : Value}
/-- A struct that came in by value. -/
theorem agg_of {r : Reach} {base : Nat} {fs : Array Field} (hu : P.underlying t = some (.struct fs)) (hv : Value.okWide P W r base t v) (ho : Opens P d t Q) (h : DataW.Trod enc P W 0 (fun _ => true) true t v D p) : ∃ cs x, v = .agg cs ∧ d.K W x cs.toList ∧ Q x := by
  obtain ⟨cs, rfl, _⟩ := Go.WideShapes.okWide_struct hu hv
  obtain ⟨fuel, hf⟩ := h
  obtain ⟨x, hx, hq⟩ := (ho fuel).2 H enc W _ _ hf
  exact ⟨cs, x, rfl, hx, hq⟩
end
end Go.Proofs.Ytoeklekjhaigoaa.Open
end
section
namespace Go.Proofs.Ytoeklekjhaigoaa.WCond
open Go.Proofs.Ytoeklekjhaigoaa.Al Go.RowKit Go.Proofs.YtoeklekjhaigoaaW.PrintWords Go.Proofs.Ytoeklekjhaigoaa.Open Go.Proofs.Ytoeklekjhaigoaa.M0
set_option linter.unusedVariables false
set_option maxRecDepth 100000
inductive Q46 : S46 → Prop where
  | mk (x : S46) (h0 : (Lit.int .i64 x.f0).wf = true) (h1 : x.f1.length ≤ maxLen) (hk : ∀ y ∈ x.f1, Q46 y) (h2 : (Lit.int .i64 x.f2).wf = true) (h3 : (Lit.int .u64 x.f3).wf = true) (h4 : x.f4.size ≤ maxLen) (h5 : (Lit.int .u64 x.f5).wf = true) : Q46 x
theorem opens46_ : ∀ n fuel, fuel ≤ n → OpensN Try.prog fuel k46 46 Q46 := by
  intro n
  induction n with
  | zero =>
    intro fuel hf
    obtain rfl : fuel = 0 := by omega
    exact OpensN.none (by kernel_rfl)
  | succ n ih =>
    intro fuel hf
    cases fuel with
    | zero => exact OpensN.none (by kernel_rfl)
    | succ fuel =>
      have hs : OpensN Try.prog fuel (Kd.slice 46 k46) 44 (fun xs => xs.length ≤ maxLen ∧ ∀ x ∈ xs, Q46 x) := by
        cases fuel with
        | zero => exact OpensN.none (by kernel_rfl)
        | succ f => exact OpensN.slice Try.underlying44 (by kernel_rfl) (ih f (by omega))
      have h := OpensN.struct (t := 46) Try.underlying46 (by kernel_rfl) (OpensF.iso (fun x : S46 => (x.f0, x.f1, x.f2, x.f3, x.f4, x.f5)) (fun p => ⟨p.1, p.2.1, p.2.2.1, p.2.2.2.1, p.2.2.2.2.1, p.2.2.2.2.2⟩) (fun _ => rfl) (OpensF.cons (by kernel_rfl) (Opens.int .i64 Try.underlying3 (by kernel_rfl) fuel) (OpensF.cons (by kernel_rfl) hs (OpensF.cons (by kernel_rfl) (Opens.int .i64 Try.underlying3 (by kernel_rfl) fuel) (OpensF.cons (by kernel_rfl) (Opens.int .u64 Try.underlying30 (by kernel_rfl) fuel) (OpensF.cons (by kernel_rfl) (Opens.string Try.underlying9 (by kernel_rfl) fuel) (OpensF.last (by kernel_rfl) (Opens.int .u64 Try.underlying30 (by kernel_rfl) fuel))))))))
      refine ⟨h.1, fun H enc W cs x hx => ?_⟩
      obtain ⟨y, hy, h0, ⟨h1, hk⟩, h2, h3, h4, h5⟩ := h.2 H enc W cs x hx
      refine ⟨y, ?_, .mk y h0 h1 hk h2 h3 h4 h5⟩
      obtain ⟨_, _, rfl, e0, _, _, rfl, ⟨A1, c1, rfl, l1, g1⟩, _, _, rfl, e2, _, _, rfl, e3, _, _, rfl, e4, e5⟩ := hy
      have e0 : _ = [_] := e0
      have e2 : _ = [_] := e2
      have e3 : _ = [_] := e3
      have e4 : _ = [_] := e4
      have e5 : _ = [_] := e5
      subst e0 e2 e3 e4 e5
      exact k46_mk W y l1 g1
theorem opens46 : Opens Try.prog k46 46 Q46 := fun fuel => opens46_ fuel fuel (Nat.le_refl _)
end Go.Proofs.Ytoeklekjhaigoaa.WCond
end
section
namespace Go.Proofs.Ytoeklekjhaigoaa.HAlive16
open Go.Proofs.Ytoeklekjhaigoaa.Al Go.RowKit Go.Proofs.YtoeklekjhaigoaaW.PrintWords Go.Proofs.YtoeklekjhaigoaaW.PrintLast Go.Proofs.YtoeklekjhaigoaaW.PrintMore Go.Proofs.Ytoeklekjhaigoaa.M0 Go.Proofs.Ytoeklekjhaigoaa.HAct Go.Proofs.Ytoeklekjhaigoaa.HUnpack
set_option linter.unusedVariables false
set_option linter.unusedSimpArgs false
set_option maxRecDepth 100000
attribute [local go_sem] max2_int min2_int max_two min_two
theorem idx_none (f : Value) (w : World) : Calls Try.prog 134 #[.slice none 0 0, f] w fun e w' => e = .returned (.int .i64 (-1)) ∧ Below w.heap.size w w' := by
  go_enter Try.func134, Try.ntmps134
  go_wp2
  go_loopw [8] (fun i wr => i = .int .i64 0 ∧ Aside0 (Below w.heap.size w wr)) (fun i _ => 0)
  case atStart => exact ⟨rfl, ⟨Below.refl _ _⟩⟩
  case round =>
    obtain ⟨rfl, hb⟩ := hrel
    go_wp2
    go_ret
    exact ⟨rfl, hb.out⟩
theorem contains_none (f : Value) (w : World) : Calls Try.prog 102 #[.slice none 0 0, f] w fun e w' => e = .returned (.bool false) ∧ Below w.heap.size w w' := by
  have h := idx_none f
  go_enter Try.func102, Try.ntmps102
  go_wp2_with (go_at_call 134; refine (h _).mono ?_; rintro e w1 ⟨rfl, hb1⟩)
  go_ret
  exact ⟨rfl, hb1⟩
structure PE (w0 w : World) (s a : ByteArray) (d : Int) : Prop where
  hb : w.heap[w0.heap.size]? = some (.cells #[.string s, .string a, .int .u64 d, .slice none 0 0] 89 (0, 0))
  hr : w.heap[w0.heap.size + 1]? = some (.cells #[.int .u32 0, .int .u32 0, .slice none 0 0] 56 (0, 0))
  B : Below w0.heap.size w0 w
theorem PE.below {w0 w w1 : World} {s a : ByteArray} {d : Int} (h : PE w0 w s a d) (hb : Below w.heap.size w w1) : PE w0 w1 s a d :=
  ⟨(hb.block _ (blk_lt h.hb)).trans h.hb, (hb.block _ (blk_lt h.hr)).trans h.hr, below_step h.B hb⟩
theorem PE.start (w : World) (s a : ByteArray) (d : Int) : PE w ((w.alloc (.cells #[.string s, .string a, .int .u64 d, .slice none 0 0] 89)).alloc (.cells #[.int .u32 0, .int .u32 0, .slice none 0 0] 56)) s a d := by
  have s1 : (w.alloc (.cells #[.string s, .string a, .int .u64 d, .slice none 0 0] 89)).heap.size = w.heap.size + 1 := by simp
  have h1 := heap_alloc_new w (.cells #[.string s, .string a, .int .u64 d, .slice none 0 0] 89)
  have h2 := heap_alloc_new (w.alloc (.cells #[.string s, .string a, .int .u64 d, .slice none 0 0] 89)) (.cells #[.int .u32 0, .int .u32 0, .slice none 0 0] 56)
  rw [s1] at h2
  exact ⟨(Below.heap_alloc _ _ _ (by rw [s1]; omega)).trans h1, h2, bal (bal (Below.refl _ _) _) _⟩
theorem PE.done {w0 w : World} {s a : ByteArray} {d x y : Int} (h : PE w0 w s a d) : (((w.setCell ⟨w0.heap.size + 1, 0, none⟩ (.int .u32 x)).setCell ⟨w0.heap.size + 1, 1, none⟩ (.int .u32 y)).setCell ⟨w0.heap.size + 1, 2, none⟩ (.slice none 0 0)).heap[w0.heap.size + 1]? = some (.cells #[.int .u32 x, .int .u32 y, .slice none 0 0] 56 (0, 0)) ∧
    Below w0.heap.size w0 (((w.setCell ⟨w0.heap.size + 1, 0, none⟩ (.int .u32 x)).setCell ⟨w0.heap.size + 1, 1, none⟩ (.int .u32 y)).setCell ⟨w0.heap.size + 1, 2, none⟩ (.slice none 0 0)) :=
  ⟨blk_put (blk_put (blk_put h.hr 0 (.int .u32 x) rfl) 1 (.int .u32 y) rfl) 2 (.slice none 0 0) rfl,
   ((h.B.setCell (p := ⟨w0.heap.size + 1, 0, none⟩) (by simp only; omega) _).setCell (p := ⟨w0.heap.size + 1, 1, none⟩) (by simp only; omega) _).setCell (p := ⟨w0.heap.size + 1, 2, none⟩) (by simp only; omega) _⟩
def polB (s : ByteArray) (a : ByteArray) (d : Int) : Option (Int × Int) := match archB s.data.toList, actOut a.data.toList d with | (x, true), (y, true) => some (x, y) | _, _ => none
set_option maxHeartbeats 2000000 in
theorem check_bare (s a : ByteArray) (d : Int) (x y : Int) (w : World) (hs : s.size ≤ maxLen) (ha : a.size ≤ maxLen) (h : polB s a d = some (x, y)) :
    Calls Try.prog 68 #[.agg #[.string s, .string a, .int .u64 d, .slice none 0 0]] w fun e w' => e = .returned (.tuple #[.agg #[.int .u32 x, .int .u32 y, .slice none 0 0], .int .i64 0]) ∧ Below w.heap.size w w' := by
  have hu89 := Try.underlying89
  have hu56 := Try.underlying56
  have h1 : archB s.data.toList = (x, true) ∧ actOut a.data.toList d = (y, true) := by
    unfold polB at h
    split at h
    · rename_i e1 e2
      injection h with h; injection h with ha hb
      rw [e1, e2, ha, hb]; exact ⟨rfl, rfl⟩
    · cases h
  have q1 := amk (fun W => call_Arch.calls s x true W (by unfold call_Arch.f; rw [if_pos hs, h1.1]))
  have q2 := amk (fun W => call_Action.calls a d y true W (by unfold call_Action.f; rw [if_pos ha, h1.2]))
  have q0 := amk contains_none
  clear h h1 hs ha
  have HP := amk (PE.start w s a d)
  go_enter Try.func68, Try.ntmps68
  go_upto_region 3 with (go_at_call 102; refine (q0.out _ _).mono ?_; rintro e w1 ⟨rfl, hb1⟩; have HP1 := amk (HP.out.below hb1); clear hb1)
  have k0 := blk_cell HP1.out.hb 0
  go_upto_region 4 with (go_at_call 38; refine (q1.out _).mono ?_; rintro e w2 ⟨rfl, hb2⟩; have HP2 := amk (HP1.out.below hb2); clear hb2)
  have p1 := blk_cell HP2.out.hb 1
  have p2 := blk_cell HP2.out.hb 2
  go_upto_region 7 with (go_at_call 33; refine (q2.out _).mono ?_; rintro e w3 ⟨rfl, hb3⟩; have HP3 := amk (HP2.out.below hb3); clear hb3)
  have p3 := blk_cell HP3.out.hb 3
  have HP4 := amk (HP3.out.below (bal (Below.refl _ _) (.cells #[.int .u32 x, .int .u32 y, .slice none 0 0] 56)))
  have HN := amk (heap_alloc_new w3 (.cells #[.int .u32 x, .int .u32 y, .slice none 0 0] 56))
  have p4 := blk_cell HP4.out.hb 3
  go_wp2
  go_loopw [50] (fun i wr => i = .int .i64 0 ∧ Aside0 (PE w wr s a d) ∧ Aside0 (wr.heap[w3.heap.size]? = some (.cells #[.int .u32 x, .int .u32 y, .slice none 0 0] 56 (0, 0)))) (fun i _ => 0)
  case atStart => exact ⟨rfl, HP4, HN⟩
  case round =>
    clear HP1 HP2 HP3 HP4 HN HP k0 p1 p2 p3 p4 q0 q1 q2
    obtain ⟨rfl, hp, hn⟩ := hrel
    have m0 := blk_cell hn.out 0
    have m1 := blk_cell hn.out 1
    have m2 := blk_cell hn.out 2
    have r0 := blk_cell hp.out.hr 0
    have r1 := blk_cell hp.out.hr 1
    have r2 := blk_cell hp.out.hr 2
    have f0 := blk_frozen hp.out.hr 0
    have f1 := blk_frozen hp.out.hr 1
    have f2 := blk_frozen hp.out.hr 2
    have HD := amk (hp.out.done (x := x) (y := y))
    clear hp hn
    go_wp2
    refine bodyPost_ret (results_ct rfl _ _ (w.heap.size + 1) 56 _ (0, 0) _ rfl HD.out.1 Try.underlying56 rfl (by kernel_rfl)) rfl ⟨rfl, HD.out.2⟩
theorem alive_any (W : World) : Calls Try.prog 64 #[] W fun e w' => e = .returned (.bool true) ∧ Below W.heap.size W w' := by
  have hu56 := Try.underlying56
  have q := amk (check_bare ⟨#[120, 56, 54, 95, 54, 52]⟩ ⟨#[97, 108, 108, 111, 119]⟩ 0 3221225534 2147418112 W (by decide) (by decide) (by decide))
  go_enter Try.func64, Try.ntmps64
  go_wp2_with (go_at_call 68; refine q.out.mono ?_; rintro e w1 ⟨rfl, hb1⟩; have HB := amk (bal (below_step (Below.refl _ _) hb1) (.cells #[.int .u32 3221225534, .int .u32 2147418112, .slice none 0 0] 56)); clear hb1)
  go_ret
  exact ⟨rfl, HB.out⟩
def doorwardlaw16_alive.f : Option Bool := some true
theorem doorwardlaw16_alive.calls (r : Bool) (w : World) (h : doorwardlaw16_alive.f = some r) : Calls Try.prog 64 #[] w fun e w' => e = .returned (.bool r) ∧ Below w.heap.size w w' := by
  have h2 := alive_any w
  rw [← Option.some.inj h]
  exact h2
end Go.Proofs.Ytoeklekjhaigoaa.HAlive16
end
section
namespace Go.Proofs.Ytoeklekjhaigoaa.PTypesConds
open Go.Proofs.Ytoeklekjhaigoaa.Al Go.RowKit Go.Proofs.YtoeklekjhaigoaaW.PrintWords Go.Proofs.YtoeklekjhaigoaaW.PrintLast Go.Proofs.YtoeklekjhaigoaaW.PrintMore
attribute [local go_sem] max2_int min2_int max_two min_two max_three min_three max_four min_four IntKind.wrap_u32 IntKind.wrap_u8   -- for this text's walks alone
set_option linter.unusedVariables false
open Go.Proofs.Ytoeklekjhaigoaa.Le Go.Proofs.Ytoeklekjhaigoaa.C1 Go.Proofs.Ytoeklekjhaigoaa.C2 Go.Proofs.Ytoeklekjhaigoaa.HAct Go.Proofs.Ytoeklekjhaigoaa.W0 Go.Proofs.Ytoeklekjhaigoaa.W1 Go.Proofs.Ytoeklekjhaigoaa.R01 Go.Proofs.Ytoeklekjhaigoaa.HPack Go.Proofs.Ytoeklekjhaigoaa.HUnpack Go.Proofs.Ytoeklekjhaigoaa.HRefPack Go.Proofs.Ytoeklekjhaigoaa.M0 Go.Proofs.Ytoeklekjhaigoaa.HMany Go.Proofs.Ytoeklekjhaigoaa.HCount Go.Proofs.Ytoeklekjhaigoaa.M1 Go.Proofs.Ytoeklekjhaigoaa.M2 Go.Proofs.Ytoeklekjhaigoaa.WCond Go.Proofs.Ytoeklekjhaigoaa.HAlive16
set_option linter.unusedSimpArgs false
def errW : Option Int → Value
  | none => .nilIface
  | some c => .iface 0 (.int .i64 c)
theorem errW_none : errW none = .nilIface := rfl
theorem errW_some (c : Int) : errW (some c) = .iface 0 (.int .i64 c) := rfl
end Go.Proofs.Ytoeklekjhaigoaa.PTypesConds
end
section
namespace Go.Proofs.Ytoeklekjhaigoaa.PTypesConds
open Go.Proofs.Ytoeklekjhaigoaa.Al Go.RowKit Go.Proofs.YtoeklekjhaigoaaW.PrintWords Go.Proofs.YtoeklekjhaigoaaW.PrintLast Go.Proofs.YtoeklekjhaigoaaW.PrintMore
attribute [local go_sem] max2_int min2_int max_two min_two max_three min_three max_four min_four IntKind.wrap_u32 IntKind.wrap_u8   -- for this text's walks alone
set_option linter.unusedVariables false
open Go.Proofs.Ytoeklekjhaigoaa.Le Go.Proofs.Ytoeklekjhaigoaa.C1 Go.Proofs.Ytoeklekjhaigoaa.C2 Go.Proofs.Ytoeklekjhaigoaa.HAct Go.Proofs.Ytoeklekjhaigoaa.W0 Go.Proofs.Ytoeklekjhaigoaa.W1 Go.Proofs.Ytoeklekjhaigoaa.R01 Go.Proofs.Ytoeklekjhaigoaa.HPack Go.Proofs.Ytoeklekjhaigoaa.HUnpack Go.Proofs.Ytoeklekjhaigoaa.HRefPack Go.Proofs.Ytoeklekjhaigoaa.M0 Go.Proofs.Ytoeklekjhaigoaa.HMany Go.Proofs.Ytoeklekjhaigoaa.HCount Go.Proofs.Ytoeklekjhaigoaa.M1 Go.Proofs.Ytoeklekjhaigoaa.M2 Go.Proofs.Ytoeklekjhaigoaa.WCond Go.Proofs.Ytoeklekjhaigoaa.HAlive16
set_option linter.unusedSimpArgs false
def doorwardlaw16_TypesConds.f (k : Nat) (a0_0 : Int) (l0_1 : List (S46)) (a0_2 : Int) (a0_3 : Int) (a0_4 : ByteArray) (a0_5 : Int) : Option (Bool) := (doorwardref15_Many.f a0_0 l0_1 a0_2 a0_3 a0_4 a0_5 200).bind fun t116 => (if t116 > 200 then ((doorwardlaw16_alive.f).bind fun t117 => (if t117 = true then ((types_Right.f a0_0 l0_1 a0_2 a0_3 a0_4 a0_5).bind fun t118 => (if t118 = true then (some false) else ((types_Tests.f a0_0 l0_1 a0_2 a0_3 a0_4 a0_5).bind fun t119 => (some (t119 == 0))))) else (some false))) else ((doorwardlaw16_alive.f).bind fun t120 => (if t120 = true then ((types_Right.f a0_0 l0_1 a0_2 a0_3 a0_4 a0_5).bind fun t121 => ((doorwardref16_Right.f k a0_0 l0_1 a0_2 a0_3 a0_4 a0_5).bind fun t122 => (if (t121 == t122) = true then ((types_Tests.f a0_0 l0_1 a0_2 a0_3 a0_4 a0_5).bind fun t123 => ((doorwardref16_Tests.f k a0_0 l0_1 a0_2 a0_3 a0_4 a0_5).bind fun t124 => (some (t123 == t124)))) else (some false)))) else (some false))))
def doorwardlaw16_TypesConds.T3 : Bool × List (List Nat × List Nat) := (true, [([], []), ([0, 0], [0]), ([1], [1]), ([2, 1, 1], [1, 2]), ([1], [1]), ([4, 3, 1], [1, 4]), ([3, 5, 1], [1, 3, 5]), ([1, 6], [1, 6]), ([7, 5], [7]), ([8], [8]), ([9, 8, 8], [8, 9]), ([8], [8]), ([11, 10, 8], [8, 11]), ([10, 12, 8], [8, 10, 12]), ([8, 13], [8, 13]), ([14, 12, 0, 1, 2, 3, 4, 5, 6, 7, 8, 9, 10, 11, 12, 13, 14], [14])])
def doorwardlaw16_TypesConds.B3 : List Nat := [0, 1, 3, 7, 3, 31, 63, 127, 255, 511, 1023, 511, 4095, 8191, 16383, 32767]
theorem doorwardlaw16_TypesConds.tab3 : rtab .any (opsOf Try.f20 3) = doorwardlaw16_TypesConds.T3 := by kernel_rfl
theorem doorwardlaw16_TypesConds.bits3 : waitsOk doorwardlaw16_TypesConds.T3.2 doorwardlaw16_TypesConds.B3 = true := by kernel_rfl
set_option maxHeartbeats 8000000 in
set_option maxRecDepth 100000 in
theorem doorwardlaw16_TypesConds.calls (k : Nat) (a0_0 : Int) (A0_1 : Option Addr) (c0_1 : Nat) (l0_1 : List (S46)) (a0_2 : Int) (a0_3 : Int) (a0_4 : ByteArray) (a0_5 : Int) (r : Bool) (w : World) (hr0_1 : Kd.C k46 w A0_1 l0_1.length l0_1) (hc0_1 : l0_1.length ≤ c0_1) (h : doorwardlaw16_TypesConds.f k a0_0 l0_1 a0_2 a0_3 a0_4 a0_5 = some r) :
    Calls Try.prog 20 #[.agg #[.int .i64 a0_0, .slice A0_1 l0_1.length c0_1, .int .i64 a0_2, .int .u64 a0_3, .string a0_4, .int .u64 a0_5]] w fun e w' => e = .returned (.bool r) ∧ Below w.heap.size w w' := by
  have hu46 := Try.underlying46
  have HR0_1 := amk hr0_1
  have HC0_1 := amk hc0_1
  clear hr0_1 hc0_1
  have HB := amk (Below.refl w.heap.size w)
  have H : ((doorwardref15_Many.f a0_0 l0_1 a0_2 a0_3 a0_4 a0_5 200).bind fun t116 => (if t116 > 200 then ((doorwardlaw16_alive.f).bind fun t117 => (if t117 = true then ((types_Right.f a0_0 l0_1 a0_2 a0_3 a0_4 a0_5).bind fun t118 => (if t118 = true then (some false) else ((types_Tests.f a0_0 l0_1 a0_2 a0_3 a0_4 a0_5).bind fun t119 => (some (t119 == 0))))) else (some false))) else ((doorwardlaw16_alive.f).bind fun t120 => (if t120 = true then ((types_Right.f a0_0 l0_1 a0_2 a0_3 a0_4 a0_5).bind fun t121 => ((doorwardref16_Right.f k a0_0 l0_1 a0_2 a0_3 a0_4 a0_5).bind fun t122 => (if (t121 == t122) = true then ((types_Tests.f a0_0 l0_1 a0_2 a0_3 a0_4 a0_5).bind fun t123 => ((doorwardref16_Tests.f k a0_0 l0_1 a0_2 a0_3 a0_4 a0_5).bind fun t124 => (some (t123 == t124)))) else (some false)))) else (some false))))) = some r := h
  clear h
  replace H := Option.bind_eq_some_iff.mp H
  obtain ⟨t116, A20, H⟩ := H
  replace H : (if t116 > 200 then ((doorwardlaw16_alive.f).bind fun t117 => (if t117 = true then ((types_Right.f a0_0 l0_1 a0_2 a0_3 a0_4 a0_5).bind fun t118 => (if t118 = true then (some false) else ((types_Tests.f a0_0 l0_1 a0_2 a0_3 a0_4 a0_5).bind fun t119 => (some (t119 == 0))))) else (some false))) else ((doorwardlaw16_alive.f).bind fun t120 => (if t120 = true then ((types_Right.f a0_0 l0_1 a0_2 a0_3 a0_4 a0_5).bind fun t121 => ((doorwardref16_Right.f k a0_0 l0_1 a0_2 a0_3 a0_4 a0_5).bind fun t122 => (if (t121 == t122) = true then ((types_Tests.f a0_0 l0_1 a0_2 a0_3 a0_4 a0_5).bind fun t123 => ((doorwardref16_Tests.f k a0_0 l0_1 a0_2 a0_3 a0_4 a0_5).bind fun t124 => (some (t123 == t124)))) else (some false)))) else (some false)))) = some r := H
  have A2 := amk A20
  clear A20
  by_cases c3 : t116 > 200
  · rw [if_pos c3] at H
    have c3b0 : decide (200 < t116) = true := decide_eq_true c3
    clear c3
    replace H := Option.bind_eq_some_iff.mp H
    obtain ⟨t117, A40, H⟩ := H
    replace H : (if t117 = true then ((types_Right.f a0_0 l0_1 a0_2 a0_3 a0_4 a0_5).bind fun t118 => (if t118 = true then (some false) else ((types_Tests.f a0_0 l0_1 a0_2 a0_3 a0_4 a0_5).bind fun t119 => (some (t119 == 0))))) else (some false)) = some r := H
    have A4 := amk A40
    clear A40
    by_cases c5 : t117 = true
    · subst c5
      have H1 : ((types_Right.f a0_0 l0_1 a0_2 a0_3 a0_4 a0_5).bind fun t118 => (if t118 = true then (some false) else ((types_Tests.f a0_0 l0_1 a0_2 a0_3 a0_4 a0_5).bind fun t119 => (some (t119 == 0))))) = some r := by rw [if_pos rfl] at H; exact H
      clear H
      have H := H1
      clear H1
      replace H := Option.bind_eq_some_iff.mp H
      obtain ⟨t118, A60, H⟩ := H
      replace H : (if t118 = true then (some false) else ((types_Tests.f a0_0 l0_1 a0_2 a0_3 a0_4 a0_5).bind fun t119 => (some (t119 == 0)))) = some r := H
      have A6 := amk A60
      clear A60
      by_cases c7 : t118 = true
      · subst c7
        have H1 : (some false) = some r := by rw [if_pos rfl] at H; exact H
        clear H
        have H := H1
        clear H1
        obtain rfl := Option.some.inj H
        go_enter Try.func20, Try.ntmps20
        go_wp2_with (first | ((with_reducible refine gate_dst (N := 1) rfl ?_); refine box_event ?hg (N := 1) ?hd (cs := #[.int .i64 a0_0, .slice A0_1 l0_1.length c0_1, .int .i64 a0_2, .int .u64 a0_3, .string a0_4, .int .u64 a0_5]) (t := 46) ?hr ?_; (case hd => rfl); (case hg => rfl); (case hr => first | (go_simp; done) | (go_simp; rfl)); intro gb115 hg w8 hbox hb; have n0_ := amk (below_step (by repeat (first | (with_reducible first | exact HB.out | apply bal | apply pbd | apply below_drew1) | exact HB.out)) hb); have n1_ := amk (hbox); have n2_ := amk ((by rw [hg]; exact (below_size (by repeat (first | (with_reducible first | exact HB.out | apply bal | apply pbd | apply below_drew1) | exact HB.out))) : w.heap.size ≤ gb115)); have n3_ := amk ((by rw [hg]; exact (below_size (by repeat (first | (with_reducible first | exact HB.out | apply bal | apply pbd | apply below_drew1) | exact HB.out))) : w.heap.size ≤ gb115)); clear HB; have HB := n0_; have BK115 := n1_; have GW115 := n2_; have GE115 := n3_; clear n0_ n1_ n2_ n3_; clear hb hbox hg; have hcz9_0 : w8.cell? ⟨gb115, 0, none⟩ = some (.int .i64 a0_0) := (blk_cell BK115.out 0).trans rfl; have hcz9_1 : w8.cell? ⟨gb115, 1, none⟩ = some (.slice A0_1 l0_1.length c0_1) := (blk_cell BK115.out 1).trans rfl; have hcz9_2 : w8.cell? ⟨gb115, 2, none⟩ = some (.int .i64 a0_2) := (blk_cell BK115.out 2).trans rfl; have hcz9_3 : w8.cell? ⟨gb115, 3, none⟩ = some (.int .u64 a0_3) := (blk_cell BK115.out 3).trans rfl; have hcz9_4 : w8.cell? ⟨gb115, 4, none⟩ = some (.string a0_4) := (blk_cell BK115.out 4).trans rfl; have hcz9_5 : w8.cell? ⟨gb115, 5, none⟩ = some (.int .u64 a0_5) := (blk_cell BK115.out 5).trans rfl; have hfz9_0 := blk_frozen BK115.out 0; have hfz9_1 := blk_frozen BK115.out 1; have hfz9_2 := blk_frozen BK115.out 2; have hfz9_3 := blk_frozen BK115.out 3; have hfz9_4 := blk_frozen BK115.out 4; have hfz9_5 := blk_frozen BK115.out 5) | ((with_reducible refine gate_callee (f := 43) rfl ?_); refine goesL_ (some 4) rfl rfl Try.func43 (by kernel_rfl) rfl #[.agg #[.int .i64 a0_0, .slice A0_1 l0_1.length c0_1, .int .i64 a0_2, .int .u64 a0_3, .string a0_4, .int .u64 a0_5], .int .i64 200] rfl (by (try simp only [List.map_toArray, List.map_cons, List.map_nil]); first | done | rfl | (simp only [List.length_drop, List.length_take]; rfl)) ?_; (with_reducible refine (doorwardref15_Many.calls a0_0 _ _ l0_1 a0_2 a0_3 a0_4 a0_5 200 t116 _ ?side1 ?side2 A2.out).mono ?_); (case side1 => repeat (first | exact (Kd.C_below HR0_1.out HB.out) | (with_reducible refine Kd.C_alloc ?_ _) | (with_reducible refine Kd.C_drewN ?_ _) | (with_reducible refine Kd.C_drew ?_))); (case side2 => exact HC0_1.out); rintro e w10 ⟨rfl, hb⟩; refine ⟨_, rfl, ?_⟩; have n0_ := amk (blk_below (g := gb115) (o := .cells #[.int .i64 a0_0, .slice A0_1 l0_1.length c0_1, .int .i64 a0_2, .int .u64 a0_3, .string a0_4, .int .u64 a0_5] 46 (0, 0)) (by (with_reducible repeat (first | refine blk_drewN ?_ _ | refine blk_drew ?_ | refine blk_alloc ?_ _)); exact BK115.out) hb); have n1_ := amk (below_step (by repeat (first | (with_reducible first | exact HB.out | apply bal | apply pbd | apply below_drew1 | refine below_set ?_ GE115.out) | exact HB.out)) hb); clear BK115; clear HB; have BK115 := n0_; have HB := n1_; clear n0_ n1_; (try clear hb); (try clear hb2); (try clear hk); (try clear hi)) | ((with_reducible refine gate_callee (f := 64) rfl ?_); refine goesL_ (some 6) rfl rfl Try.func64 (by kernel_rfl) rfl #[] rfl (by (try simp only [List.map_toArray, List.map_cons, List.map_nil]); first | done | rfl | (simp only [List.length_drop, List.length_take]; rfl)) ?_; (with_reducible refine (doorwardlaw16_alive.calls  true _ A4.out).mono ?_); rintro e w11 ⟨rfl, hb⟩; refine ⟨_, rfl, ?_⟩; have n0_ := amk (blk_below (g := gb115) (o := .cells #[.int .i64 a0_0, .slice A0_1 l0_1.length c0_1, .int .i64 a0_2, .int .u64 a0_3, .string a0_4, .int .u64 a0_5] 46 (0, 0)) (by (with_reducible repeat (first | refine blk_drewN ?_ _ | refine blk_drew ?_ | refine blk_alloc ?_ _)); exact BK115.out) hb); have n1_ := amk (below_step (by repeat (first | (with_reducible first | exact HB.out | apply bal | apply pbd | apply below_drew1 | refine below_set ?_ GE115.out) | exact HB.out)) hb); clear BK115; clear HB; have BK115 := n0_; have HB := n1_; clear n0_ n1_; (try clear hb); (try clear hb2); (try clear hk); (try clear hi); have hcz12_0 : w11.cell? ⟨gb115, 0, none⟩ = some (.int .i64 a0_0) := (blk_cell BK115.out 0).trans rfl; have hcz12_1 : w11.cell? ⟨gb115, 1, none⟩ = some (.slice A0_1 l0_1.length c0_1) := (blk_cell BK115.out 1).trans rfl; have hcz12_2 : w11.cell? ⟨gb115, 2, none⟩ = some (.int .i64 a0_2) := (blk_cell BK115.out 2).trans rfl; have hcz12_3 : w11.cell? ⟨gb115, 3, none⟩ = some (.int .u64 a0_3) := (blk_cell BK115.out 3).trans rfl; have hcz12_4 : w11.cell? ⟨gb115, 4, none⟩ = some (.string a0_4) := (blk_cell BK115.out 4).trans rfl; have hcz12_5 : w11.cell? ⟨gb115, 5, none⟩ = some (.int .u64 a0_5) := (blk_cell BK115.out 5).trans rfl; have hfz12_0 := blk_frozen BK115.out 0; have hfz12_1 := blk_frozen BK115.out 1; have hfz12_2 := blk_frozen BK115.out 2; have hfz12_3 := blk_frozen BK115.out 3; have hfz12_4 := blk_frozen BK115.out 4; have hfz12_5 := blk_frozen BK115.out 5) | (go_at_call 65; (with_reducible refine (types_Right.calls a0_0 _ _ l0_1 a0_2 a0_3 a0_4 a0_5 true _ ?side1 ?side2 A6.out).mono ?_); (case side1 => repeat (first | exact (Kd.C_below HR0_1.out HB.out) | (with_reducible refine Kd.C_alloc ?_ _) | (with_reducible refine Kd.C_drewN ?_ _) | (with_reducible refine Kd.C_drew ?_))); (case side2 => exact HC0_1.out); rintro e w13 ⟨rfl, hb⟩; have n0_ := amk (blk_below (g := gb115) (o := .cells #[.int .i64 a0_0, .slice A0_1 l0_1.length c0_1, .int .i64 a0_2, .int .u64 a0_3, .string a0_4, .int .u64 a0_5] 46 (0, 0)) (by (with_reducible repeat (first | refine blk_drewN ?_ _ | refine blk_drew ?_ | refine blk_alloc ?_ _)); exact BK115.out) hb); have n1_ := amk (below_step (by repeat (first | (with_reducible first | exact HB.out | apply bal | apply pbd | apply below_drew1 | refine below_set ?_ GE115.out) | exact HB.out)) hb); clear BK115; clear HB; have BK115 := n0_; have HB := n1_; clear n0_ n1_; (try clear hb); (try clear hb2); (try clear hk); (try clear hi)))
        go_ret
        exact ⟨by first | rfl | (simp [errW_none, errW_some] <;> rfl) | (simp [*, errW_none, errW_some] <;> rfl), by repeat (first | (with_reducible first | exact HB.out | apply bal | apply pbd | apply below_drew1 | refine below_set ?_ GE115.out) | exact HB.out)⟩
      · replace c7 := Bool.eq_false_iff.mpr c7
        subst c7
        have H1 : ((types_Tests.f a0_0 l0_1 a0_2 a0_3 a0_4 a0_5).bind fun t119 => (some (t119 == 0))) = some r := by rw [if_neg (show ¬ (false = true) by decide)] at H; exact H
        clear H
        have H := H1
        clear H1
        replace H := Option.bind_eq_some_iff.mp H
        obtain ⟨t119, A140, H⟩ := H
        replace H : (some (t119 == 0)) = some r := H
        have A14 := amk A140
        clear A140
        obtain rfl := Option.some.inj H
        go_enter Try.func20, Try.ntmps20
        go_wp2_with (first | ((with_reducible refine gate_dst (N := 1) rfl ?_); refine box_event ?hg (N := 1) ?hd (cs := #[.int .i64 a0_0, .slice A0_1 l0_1.length c0_1, .int .i64 a0_2, .int .u64 a0_3, .string a0_4, .int .u64 a0_5]) (t := 46) ?hr ?_; (case hd => rfl); (case hg => rfl); (case hr => first | (go_simp; done) | (go_simp; rfl)); intro gb115 hg w15 hbox hb; have n0_ := amk (below_step (by repeat (first | (with_reducible first | exact HB.out | apply bal | apply pbd | apply below_drew1) | exact HB.out)) hb); have n1_ := amk (hbox); have n2_ := amk ((by rw [hg]; exact (below_size (by repeat (first | (with_reducible first | exact HB.out | apply bal | apply pbd | apply below_drew1) | exact HB.out))) : w.heap.size ≤ gb115)); have n3_ := amk ((by rw [hg]; exact (below_size (by repeat (first | (with_reducible first | exact HB.out | apply bal | apply pbd | apply below_drew1) | exact HB.out))) : w.heap.size ≤ gb115)); clear HB; have HB := n0_; have BK115 := n1_; have GW115 := n2_; have GE115 := n3_; clear n0_ n1_ n2_ n3_; clear hb hbox hg; have hcz16_0 : w15.cell? ⟨gb115, 0, none⟩ = some (.int .i64 a0_0) := (blk_cell BK115.out 0).trans rfl; have hcz16_1 : w15.cell? ⟨gb115, 1, none⟩ = some (.slice A0_1 l0_1.length c0_1) := (blk_cell BK115.out 1).trans rfl; have hcz16_2 : w15.cell? ⟨gb115, 2, none⟩ = some (.int .i64 a0_2) := (blk_cell BK115.out 2).trans rfl; have hcz16_3 : w15.cell? ⟨gb115, 3, none⟩ = some (.int .u64 a0_3) := (blk_cell BK115.out 3).trans rfl; have hcz16_4 : w15.cell? ⟨gb115, 4, none⟩ = some (.string a0_4) := (blk_cell BK115.out 4).trans rfl; have hcz16_5 : w15.cell? ⟨gb115, 5, none⟩ = some (.int .u64 a0_5) := (blk_cell BK115.out 5).trans rfl; have hfz16_0 := blk_frozen BK115.out 0; have hfz16_1 := blk_frozen BK115.out 1; have hfz16_2 := blk_frozen BK115.out 2; have hfz16_3 := blk_frozen BK115.out 3; have hfz16_4 := blk_frozen BK115.out 4; have hfz16_5 := blk_frozen BK115.out 5) | ((with_reducible refine gate_callee (f := 43) rfl ?_); refine goesL_ (some 4) rfl rfl Try.func43 (by kernel_rfl) rfl #[.agg #[.int .i64 a0_0, .slice A0_1 l0_1.length c0_1, .int .i64 a0_2, .int .u64 a0_3, .string a0_4, .int .u64 a0_5], .int .i64 200] rfl (by (try simp only [List.map_toArray, List.map_cons, List.map_nil]); first | done | rfl | (simp only [List.length_drop, List.length_take]; rfl)) ?_; (with_reducible refine (doorwardref15_Many.calls a0_0 _ _ l0_1 a0_2 a0_3 a0_4 a0_5 200 t116 _ ?side1 ?side2 A2.out).mono ?_); (case side1 => repeat (first | exact (Kd.C_below HR0_1.out HB.out) | (with_reducible refine Kd.C_alloc ?_ _) | (with_reducible refine Kd.C_drewN ?_ _) | (with_reducible refine Kd.C_drew ?_))); (case side2 => exact HC0_1.out); rintro e w17 ⟨rfl, hb⟩; refine ⟨_, rfl, ?_⟩; have n0_ := amk (blk_below (g := gb115) (o := .cells #[.int .i64 a0_0, .slice A0_1 l0_1.length c0_1, .int .i64 a0_2, .int .u64 a0_3, .string a0_4, .int .u64 a0_5] 46 (0, 0)) (by (with_reducible repeat (first | refine blk_drewN ?_ _ | refine blk_drew ?_ | refine blk_alloc ?_ _)); exact BK115.out) hb); have n1_ := amk (below_step (by repeat (first | (with_reducible first | exact HB.out | apply bal | apply pbd | apply below_drew1 | refine below_set ?_ GE115.out) | exact HB.out)) hb); clear BK115; clear HB; have BK115 := n0_; have HB := n1_; clear n0_ n1_; (try clear hb); (try clear hb2); (try clear hk); (try clear hi)) | ((with_reducible refine gate_callee (f := 64) rfl ?_); refine goesL_ (some 6) rfl rfl Try.func64 (by kernel_rfl) rfl #[] rfl (by (try simp only [List.map_toArray, List.map_cons, List.map_nil]); first | done | rfl | (simp only [List.length_drop, List.length_take]; rfl)) ?_; (with_reducible refine (doorwardlaw16_alive.calls  true _ A4.out).mono ?_); rintro e w18 ⟨rfl, hb⟩; refine ⟨_, rfl, ?_⟩; have n0_ := amk (blk_below (g := gb115) (o := .cells #[.int .i64 a0_0, .slice A0_1 l0_1.length c0_1, .int .i64 a0_2, .int .u64 a0_3, .string a0_4, .int .u64 a0_5] 46 (0, 0)) (by (with_reducible repeat (first | refine blk_drewN ?_ _ | refine blk_drew ?_ | refine blk_alloc ?_ _)); exact BK115.out) hb); have n1_ := amk (below_step (by repeat (first | (with_reducible first | exact HB.out | apply bal | apply pbd | apply below_drew1 | refine below_set ?_ GE115.out) | exact HB.out)) hb); clear BK115; clear HB; have BK115 := n0_; have HB := n1_; clear n0_ n1_; (try clear hb); (try clear hb2); (try clear hk); (try clear hi); have hcz19_0 : w18.cell? ⟨gb115, 0, none⟩ = some (.int .i64 a0_0) := (blk_cell BK115.out 0).trans rfl; have hcz19_1 : w18.cell? ⟨gb115, 1, none⟩ = some (.slice A0_1 l0_1.length c0_1) := (blk_cell BK115.out 1).trans rfl; have hcz19_2 : w18.cell? ⟨gb115, 2, none⟩ = some (.int .i64 a0_2) := (blk_cell BK115.out 2).trans rfl; have hcz19_3 : w18.cell? ⟨gb115, 3, none⟩ = some (.int .u64 a0_3) := (blk_cell BK115.out 3).trans rfl; have hcz19_4 : w18.cell? ⟨gb115, 4, none⟩ = some (.string a0_4) := (blk_cell BK115.out 4).trans rfl; have hcz19_5 : w18.cell? ⟨gb115, 5, none⟩ = some (.int .u64 a0_5) := (blk_cell BK115.out 5).trans rfl; have hfz19_0 := blk_frozen BK115.out 0; have hfz19_1 := blk_frozen BK115.out 1; have hfz19_2 := blk_frozen BK115.out 2; have hfz19_3 := blk_frozen BK115.out 3; have hfz19_4 := blk_frozen BK115.out 4; have hfz19_5 := blk_frozen BK115.out 5) | (go_at_call 65; (with_reducible refine (types_Right.calls a0_0 _ _ l0_1 a0_2 a0_3 a0_4 a0_5 false _ ?side1 ?side2 A6.out).mono ?_); (case side1 => repeat (first | exact (Kd.C_below HR0_1.out HB.out) | (with_reducible refine Kd.C_alloc ?_ _) | (with_reducible refine Kd.C_drewN ?_ _) | (with_reducible refine Kd.C_drew ?_))); (case side2 => exact HC0_1.out); rintro e w20 ⟨rfl, hb⟩; have n0_ := amk (blk_below (g := gb115) (o := .cells #[.int .i64 a0_0, .slice A0_1 l0_1.length c0_1, .int .i64 a0_2, .int .u64 a0_3, .string a0_4, .int .u64 a0_5] 46 (0, 0)) (by (with_reducible repeat (first | refine blk_drewN ?_ _ | refine blk_drew ?_ | refine blk_alloc ?_ _)); exact BK115.out) hb); have n1_ := amk (below_step (by repeat (first | (with_reducible first | exact HB.out | apply bal | apply pbd | apply below_drew1 | refine below_set ?_ GE115.out) | exact HB.out)) hb); clear BK115; clear HB; have BK115 := n0_; have HB := n1_; clear n0_ n1_; (try clear hb); (try clear hb2); (try clear hk); (try clear hi); have hcz21_0 : w20.cell? ⟨gb115, 0, none⟩ = some (.int .i64 a0_0) := (blk_cell BK115.out 0).trans rfl; have hcz21_1 : w20.cell? ⟨gb115, 1, none⟩ = some (.slice A0_1 l0_1.length c0_1) := (blk_cell BK115.out 1).trans rfl; have hcz21_2 : w20.cell? ⟨gb115, 2, none⟩ = some (.int .i64 a0_2) := (blk_cell BK115.out 2).trans rfl; have hcz21_3 : w20.cell? ⟨gb115, 3, none⟩ = some (.int .u64 a0_3) := (blk_cell BK115.out 3).trans rfl; have hcz21_4 : w20.cell? ⟨gb115, 4, none⟩ = some (.string a0_4) := (blk_cell BK115.out 4).trans rfl; have hcz21_5 : w20.cell? ⟨gb115, 5, none⟩ = some (.int .u64 a0_5) := (blk_cell BK115.out 5).trans rfl; have hfz21_0 := blk_frozen BK115.out 0; have hfz21_1 := blk_frozen BK115.out 1; have hfz21_2 := blk_frozen BK115.out 2; have hfz21_3 := blk_frozen BK115.out 3; have hfz21_4 := blk_frozen BK115.out 4; have hfz21_5 := blk_frozen BK115.out 5) | (go_at_call 66; (with_reducible refine (types_Tests.calls a0_0 _ _ l0_1 a0_2 a0_3 a0_4 a0_5 t119 _ ?side1 ?side2 A14.out).mono ?_); (case side1 => repeat (first | exact (Kd.C_below HR0_1.out HB.out) | (with_reducible refine Kd.C_alloc ?_ _) | (with_reducible refine Kd.C_drewN ?_ _) | (with_reducible refine Kd.C_drew ?_))); (case side2 => exact HC0_1.out); rintro e w22 ⟨rfl, hb⟩; have n0_ := amk (blk_below (g := gb115) (o := .cells #[.int .i64 a0_0, .slice A0_1 l0_1.length c0_1, .int .i64 a0_2, .int .u64 a0_3, .string a0_4, .int .u64 a0_5] 46 (0, 0)) (by (with_reducible repeat (first | refine blk_drewN ?_ _ | refine blk_drew ?_ | refine blk_alloc ?_ _)); exact BK115.out) hb); have n1_ := amk (below_step (by repeat (first | (with_reducible first | exact HB.out | apply bal | apply pbd | apply below_drew1 | refine below_set ?_ GE115.out) | exact HB.out)) hb); clear BK115; clear HB; have BK115 := n0_; have HB := n1_; clear n0_ n1_; (try clear hb); (try clear hb2); (try clear hk); (try clear hi)))
        go_ret
        exact ⟨by first | rfl | (simp [errW_none, errW_some] <;> rfl) | (simp [*, errW_none, errW_some] <;> rfl), by repeat (first | (with_reducible first | exact HB.out | apply bal | apply pbd | apply below_drew1 | refine below_set ?_ GE115.out) | exact HB.out)⟩
    · replace c5 := Bool.eq_false_iff.mpr c5
      subst c5
      have H1 : (some false) = some r := by rw [if_neg (show ¬ (false = true) by decide)] at H; exact H
      clear H
      have H := H1
      clear H1
      obtain rfl := Option.some.inj H
      go_enter Try.func20, Try.ntmps20
      go_wp2_with (first | ((with_reducible refine gate_dst (N := 1) rfl ?_); refine box_event ?hg (N := 1) ?hd (cs := #[.int .i64 a0_0, .slice A0_1 l0_1.length c0_1, .int .i64 a0_2, .int .u64 a0_3, .string a0_4, .int .u64 a0_5]) (t := 46) ?hr ?_; (case hd => rfl); (case hg => rfl); (case hr => first | (go_simp; done) | (go_simp; rfl)); intro gb115 hg w23 hbox hb; have n0_ := amk (below_step (by repeat (first | (with_reducible first | exact HB.out | apply bal | apply pbd | apply below_drew1) | exact HB.out)) hb); have n1_ := amk (hbox); have n2_ := amk ((by rw [hg]; exact (below_size (by repeat (first | (with_reducible first | exact HB.out | apply bal | apply pbd | apply below_drew1) | exact HB.out))) : w.heap.size ≤ gb115)); have n3_ := amk ((by rw [hg]; exact (below_size (by repeat (first | (with_reducible first | exact HB.out | apply bal | apply pbd | apply below_drew1) | exact HB.out))) : w.heap.size ≤ gb115)); clear HB; have HB := n0_; have BK115 := n1_; have GW115 := n2_; have GE115 := n3_; clear n0_ n1_ n2_ n3_; clear hb hbox hg; have hcz24_0 : w23.cell? ⟨gb115, 0, none⟩ = some (.int .i64 a0_0) := (blk_cell BK115.out 0).trans rfl; have hcz24_1 : w23.cell? ⟨gb115, 1, none⟩ = some (.slice A0_1 l0_1.length c0_1) := (blk_cell BK115.out 1).trans rfl; have hcz24_2 : w23.cell? ⟨gb115, 2, none⟩ = some (.int .i64 a0_2) := (blk_cell BK115.out 2).trans rfl; have hcz24_3 : w23.cell? ⟨gb115, 3, none⟩ = some (.int .u64 a0_3) := (blk_cell BK115.out 3).trans rfl; have hcz24_4 : w23.cell? ⟨gb115, 4, none⟩ = some (.string a0_4) := (blk_cell BK115.out 4).trans rfl; have hcz24_5 : w23.cell? ⟨gb115, 5, none⟩ = some (.int .u64 a0_5) := (blk_cell BK115.out 5).trans rfl; have hfz24_0 := blk_frozen BK115.out 0; have hfz24_1 := blk_frozen BK115.out 1; have hfz24_2 := blk_frozen BK115.out 2; have hfz24_3 := blk_frozen BK115.out 3; have hfz24_4 := blk_frozen BK115.out 4; have hfz24_5 := blk_frozen BK115.out 5) | ((with_reducible refine gate_callee (f := 43) rfl ?_); refine goesL_ (some 4) rfl rfl Try.func43 (by kernel_rfl) rfl #[.agg #[.int .i64 a0_0, .slice A0_1 l0_1.length c0_1, .int .i64 a0_2, .int .u64 a0_3, .string a0_4, .int .u64 a0_5], .int .i64 200] rfl (by (try simp only [List.map_toArray, List.map_cons, List.map_nil]); first | done | rfl | (simp only [List.length_drop, List.length_take]; rfl)) ?_; (with_reducible refine (doorwardref15_Many.calls a0_0 _ _ l0_1 a0_2 a0_3 a0_4 a0_5 200 t116 _ ?side1 ?side2 A2.out).mono ?_); (case side1 => repeat (first | exact (Kd.C_below HR0_1.out HB.out) | (with_reducible refine Kd.C_alloc ?_ _) | (with_reducible refine Kd.C_drewN ?_ _) | (with_reducible refine Kd.C_drew ?_))); (case side2 => exact HC0_1.out); rintro e w25 ⟨rfl, hb⟩; refine ⟨_, rfl, ?_⟩; have n0_ := amk (blk_below (g := gb115) (o := .cells #[.int .i64 a0_0, .slice A0_1 l0_1.length c0_1, .int .i64 a0_2, .int .u64 a0_3, .string a0_4, .int .u64 a0_5] 46 (0, 0)) (by (with_reducible repeat (first | refine blk_drewN ?_ _ | refine blk_drew ?_ | refine blk_alloc ?_ _)); exact BK115.out) hb); have n1_ := amk (below_step (by repeat (first | (with_reducible first | exact HB.out | apply bal | apply pbd | apply below_drew1 | refine below_set ?_ GE115.out) | exact HB.out)) hb); clear BK115; clear HB; have BK115 := n0_; have HB := n1_; clear n0_ n1_; (try clear hb); (try clear hb2); (try clear hk); (try clear hi)) | ((with_reducible refine gate_callee (f := 64) rfl ?_); refine goesL_ (some 6) rfl rfl Try.func64 (by kernel_rfl) rfl #[] rfl (by (try simp only [List.map_toArray, List.map_cons, List.map_nil]); first | done | rfl | (simp only [List.length_drop, List.length_take]; rfl)) ?_; (with_reducible refine (doorwardlaw16_alive.calls  false _ A4.out).mono ?_); rintro e w26 ⟨rfl, hb⟩; refine ⟨_, rfl, ?_⟩; have n0_ := amk (blk_below (g := gb115) (o := .cells #[.int .i64 a0_0, .slice A0_1 l0_1.length c0_1, .int .i64 a0_2, .int .u64 a0_3, .string a0_4, .int .u64 a0_5] 46 (0, 0)) (by (with_reducible repeat (first | refine blk_drewN ?_ _ | refine blk_drew ?_ | refine blk_alloc ?_ _)); exact BK115.out) hb); have n1_ := amk (below_step (by repeat (first | (with_reducible first | exact HB.out | apply bal | apply pbd | apply below_drew1 | refine below_set ?_ GE115.out) | exact HB.out)) hb); clear BK115; clear HB; have BK115 := n0_; have HB := n1_; clear n0_ n1_; (try clear hb); (try clear hb2); (try clear hk); (try clear hi)))
      go_ret
      exact ⟨by first | rfl | (simp [errW_none, errW_some] <;> rfl) | (simp [*, errW_none, errW_some] <;> rfl), by repeat (first | (with_reducible first | exact HB.out | apply bal | apply pbd | apply below_drew1 | refine below_set ?_ GE115.out) | exact HB.out)⟩
  · rw [if_neg c3] at H
    have c3b0 : decide (200 < t116) = false := decide_eq_false c3
    clear c3
    replace H := Option.bind_eq_some_iff.mp H
    obtain ⟨t120, A270, H⟩ := H
    replace H : (if t120 = true then ((types_Right.f a0_0 l0_1 a0_2 a0_3 a0_4 a0_5).bind fun t121 => ((doorwardref16_Right.f k a0_0 l0_1 a0_2 a0_3 a0_4 a0_5).bind fun t122 => (if (t121 == t122) = true then ((types_Tests.f a0_0 l0_1 a0_2 a0_3 a0_4 a0_5).bind fun t123 => ((doorwardref16_Tests.f k a0_0 l0_1 a0_2 a0_3 a0_4 a0_5).bind fun t124 => (some (t123 == t124)))) else (some false)))) else (some false)) = some r := H
    have A27 := amk A270
    clear A270
    by_cases c28 : t120 = true
    · subst c28
      have H1 : ((types_Right.f a0_0 l0_1 a0_2 a0_3 a0_4 a0_5).bind fun t121 => ((doorwardref16_Right.f k a0_0 l0_1 a0_2 a0_3 a0_4 a0_5).bind fun t122 => (if (t121 == t122) = true then ((types_Tests.f a0_0 l0_1 a0_2 a0_3 a0_4 a0_5).bind fun t123 => ((doorwardref16_Tests.f k a0_0 l0_1 a0_2 a0_3 a0_4 a0_5).bind fun t124 => (some (t123 == t124)))) else (some false)))) = some r := by rw [if_pos rfl] at H; exact H
      clear H
      have H := H1
      clear H1
      replace H := Option.bind_eq_some_iff.mp H
      obtain ⟨t121, A290, H⟩ := H
      replace H : ((doorwardref16_Right.f k a0_0 l0_1 a0_2 a0_3 a0_4 a0_5).bind fun t122 => (if (t121 == t122) = true then ((types_Tests.f a0_0 l0_1 a0_2 a0_3 a0_4 a0_5).bind fun t123 => ((doorwardref16_Tests.f k a0_0 l0_1 a0_2 a0_3 a0_4 a0_5).bind fun t124 => (some (t123 == t124)))) else (some false))) = some r := H
      have A29 := amk A290
      clear A290
      replace H := Option.bind_eq_some_iff.mp H
      obtain ⟨t122, A300, H⟩ := H
      replace H : (if (t121 == t122) = true then ((types_Tests.f a0_0 l0_1 a0_2 a0_3 a0_4 a0_5).bind fun t123 => ((doorwardref16_Tests.f k a0_0 l0_1 a0_2 a0_3 a0_4 a0_5).bind fun t124 => (some (t123 == t124)))) else (some false)) = some r := H
      have A30 := amk A300
      clear A300
      by_cases c31 : (t121 == t122) = true
      · rw [if_pos c31] at H
        have c31b0 : (t121 == t122) = true := c31
        (try (have c31b1 : decide (t121 = t122) = true := by simpa using c31))
        (try (have c31b2 : (t121 == t122) = true := by simpa using c31))
        clear c31
        replace H := Option.bind_eq_some_iff.mp H
        obtain ⟨t123, A320, H⟩ := H
        replace H : ((doorwardref16_Tests.f k a0_0 l0_1 a0_2 a0_3 a0_4 a0_5).bind fun t124 => (some (t123 == t124))) = some r := H
        have A32 := amk A320
        clear A320
        replace H := Option.bind_eq_some_iff.mp H
        obtain ⟨t124, A330, H⟩ := H
        replace H : (some (t123 == t124)) = some r := H
        have A33 := amk A330
        clear A330
        obtain rfl := Option.some.inj H
        go_enter Try.func20, Try.ntmps20
        try go_wp2_with (first | ((with_reducible refine gate_dst (N := 1) rfl ?_); refine box_event ?hg (N := 1) ?hd (cs := #[.int .i64 a0_0, .slice A0_1 l0_1.length c0_1, .int .i64 a0_2, .int .u64 a0_3, .string a0_4, .int .u64 a0_5]) (t := 46) ?hr ?_; (case hd => rfl); (case hg => rfl); (case hr => first | (go_simp; done) | (go_simp; rfl)); intro gb115 hg w34 hbox hb; have n0_ := amk (below_step (by repeat (first | (with_reducible first | exact HB.out | apply bal | apply pbd | apply below_drew1) | exact HB.out)) hb); have n1_ := amk (hbox); have n2_ := amk ((by rw [hg]; exact (below_size (by repeat (first | (with_reducible first | exact HB.out | apply bal | apply pbd | apply below_drew1) | exact HB.out))) : w.heap.size ≤ gb115)); have n3_ := amk ((by rw [hg]; exact (below_size (by repeat (first | (with_reducible first | exact HB.out | apply bal | apply pbd | apply below_drew1) | exact HB.out))) : w.heap.size ≤ gb115)); clear HB; have HB := n0_; have BK115 := n1_; have GW115 := n2_; have GE115 := n3_; clear n0_ n1_ n2_ n3_; clear hb hbox hg; have hcz35_0 : w34.cell? ⟨gb115, 0, none⟩ = some (.int .i64 a0_0) := (blk_cell BK115.out 0).trans rfl; have hcz35_1 : w34.cell? ⟨gb115, 1, none⟩ = some (.slice A0_1 l0_1.length c0_1) := (blk_cell BK115.out 1).trans rfl; have hcz35_2 : w34.cell? ⟨gb115, 2, none⟩ = some (.int .i64 a0_2) := (blk_cell BK115.out 2).trans rfl; have hcz35_3 : w34.cell? ⟨gb115, 3, none⟩ = some (.int .u64 a0_3) := (blk_cell BK115.out 3).trans rfl; have hcz35_4 : w34.cell? ⟨gb115, 4, none⟩ = some (.string a0_4) := (blk_cell BK115.out 4).trans rfl; have hcz35_5 : w34.cell? ⟨gb115, 5, none⟩ = some (.int .u64 a0_5) := (blk_cell BK115.out 5).trans rfl; have hfz35_0 := blk_frozen BK115.out 0; have hfz35_1 := blk_frozen BK115.out 1; have hfz35_2 := blk_frozen BK115.out 2; have hfz35_3 := blk_frozen BK115.out 3; have hfz35_4 := blk_frozen BK115.out 4; have hfz35_5 := blk_frozen BK115.out 5) | ((with_reducible refine gate_callee (f := 43) rfl ?_); refine goesL_ (some 4) rfl rfl Try.func43 (by kernel_rfl) rfl #[.agg #[.int .i64 a0_0, .slice A0_1 l0_1.length c0_1, .int .i64 a0_2, .int .u64 a0_3, .string a0_4, .int .u64 a0_5], .int .i64 200] rfl (by (try simp only [List.map_toArray, List.map_cons, List.map_nil]); first | done | rfl | (simp only [List.length_drop, List.length_take]; rfl)) ?_; (with_reducible refine (doorwardref15_Many.calls a0_0 _ _ l0_1 a0_2 a0_3 a0_4 a0_5 200 t116 _ ?side1 ?side2 A2.out).mono ?_); (case side1 => repeat (first | exact (Kd.C_below HR0_1.out HB.out) | (with_reducible refine Kd.C_alloc ?_ _) | (with_reducible refine Kd.C_drewN ?_ _) | (with_reducible refine Kd.C_drew ?_))); (case side2 => exact HC0_1.out); rintro e w36 ⟨rfl, hb⟩; refine ⟨_, rfl, ?_⟩; have n0_ := amk (blk_below (g := gb115) (o := .cells #[.int .i64 a0_0, .slice A0_1 l0_1.length c0_1, .int .i64 a0_2, .int .u64 a0_3, .string a0_4, .int .u64 a0_5] 46 (0, 0)) (by (with_reducible repeat (first | refine blk_drewN ?_ _ | refine blk_drew ?_ | refine blk_alloc ?_ _)); exact BK115.out) hb); have n1_ := amk (below_step (by repeat (first | (with_reducible first | exact HB.out | apply bal | apply pbd | apply below_drew1 | refine below_set ?_ GE115.out) | exact HB.out)) hb); clear BK115; clear HB; have BK115 := n0_; have HB := n1_; clear n0_ n1_; (try clear hb); (try clear hb2); (try clear hk); (try clear hi)))
        have n0_ := amk (blk_drew BK115.out)
        have n1_ := amk (below_drew1 HB.out)
        clear BK115
        clear HB
        have BK115 := n0_
        have HB := n1_
        clear n0_ n1_
        refine start_ (n := 16) (S := fun w' => w'.cell? ⟨gb115, 0, none⟩ = some (.int .i64 a0_0) ∧ w'.cell? ⟨gb115, 1, none⟩ = some (.slice A0_1 l0_1.length c0_1) ∧ w'.cell? ⟨gb115, 2, none⟩ = some (.int .i64 a0_2) ∧ w'.cell? ⟨gb115, 3, none⟩ = some (.int .u64 a0_3) ∧ w'.cell? ⟨gb115, 4, none⟩ = some (.string a0_4) ∧ w'.cell? ⟨gb115, 5, none⟩ = some (.int .u64 a0_5)) (ds := []) #[false, false, false, false, false, false, false, false, false, false, false, false, false, false, false, false] (by kernel_rfl) rfl rfl ⟨(blk_cell BK115.out 0).trans rfl, (blk_cell BK115.out 1).trans rfl, (blk_cell BK115.out 2).trans rfl, (blk_cell BK115.out 3).trans rfl, (blk_cell BK115.out 4).trans rfl, (blk_cell BK115.out 5).trans rfl⟩ (fun hHeld => ?_); refine with_tabW doorwardlaw16_TypesConds.tab3 doorwardlaw16_TypesConds.bits3 (fun HT_ HW_ => ?_)
        generalize w36.drew = w37 at BK115 HB hHeld ⊢
        refine one_ (i := 0) (N := some 17) #[true, false, false, false, false, false, false, false, false, false, false, false, false, false, false, false] rfl rfl (one_of HT_.out (by kernel_rfl)) (by decide) (fun K hK => ?_)
        refine goes_ Try.func64 (by kernel_rfl) rfl #[] (by rfl) rfl rfl (by (try simp only [List.map_toArray, List.map_cons, List.map_nil]); first | done | rfl | (simp only [List.length_drop, List.length_take]; rfl)) ?_
        with_reducible refine (doorwardlaw16_alive.calls  true _ A27.out).mono ?_
        rintro e w38 ⟨rfl, hb⟩
        refine ⟨_, rfl, ?_⟩
        have n0_ := amk (blk_below (g := gb115) (o := .cells #[.int .i64 a0_0, .slice A0_1 l0_1.length c0_1, .int .i64 a0_2, .int .u64 a0_3, .string a0_4, .int .u64 a0_5] 46 (0, 0)) (by (with_reducible repeat (first | refine blk_drewN ?_ _ | refine blk_drew ?_ | refine blk_alloc ?_ _)); exact BK115.out) hb)
        have n1_ := amk (below_step (by repeat (first | (with_reducible first | exact HB.out | apply bal | apply pbd | apply below_drew1 | refine below_set ?_ GE115.out) | exact HB.out)) hb)
        clear BK115
        clear HB
        have BK115 := n0_
        have HB := n1_
        clear n0_ n1_
        (try clear hb)
        (try clear hb2)
        (try clear hk)
        (try clear hi)
        refine hK.out _ _ ⟨(blk_cell BK115.out 0).trans rfl, (blk_cell BK115.out 1).trans rfl, (blk_cell BK115.out 2).trans rfl, (blk_cell BK115.out 3).trans rfl, (blk_cell BK115.out 4).trans rfl, (blk_cell BK115.out 5).trans rfl⟩ (fun hHeld => ?_)
        clear hK K
        refine norm_ (a' := ?_) ?_ ?_
        rotate_left
        · show Act.put _ (some 17) _ = _
          simp only [Act.put, List.setIfInBounds_toArray, List.set_cons_zero, List.set_cons_succ, i64_w, i32_w]
          rfl
        refine pure_ (i := 1) (N := some 18) (v := ?_) (a' := ?_) #[true, true, false, false, false, false, false, false, false, false, false, false, false, false, false, false] rfl rfl (any_of HT_.out (by kernel_rfl)) (fun _ _ _ h => h) (Or.inl ⟨by rfl, ?_⟩) ?_ ?_
        rotate_left
        · intro w'
          go_simp
          with_reducible rfl
        rotate_left
        · simp only [Act.put, List.setIfInBounds_toArray, List.set_cons_zero, List.set_cons_succ, i64_w, i32_w]
          rfl
        refine take_ (i := 2) (N := some 19) (v := ?_) (a' := ?_) #[true, true, true, false, false, false, false, false, false, false, false, false, false, false, false, false] rfl rfl (take_ofW HT_.out HW_.out (by kernel_rfl)) (fun _ _ _ h => h) (Or.inl ⟨by rfl, ?_⟩) hHeld ?_ ?_
        rotate_left
        · rintro w' ⟨s0, s1, s2, s3, s4, s5⟩
          go_simp
          with_reducible rfl
        rotate_left
        · simp only [Act.put, List.setIfInBounds_toArray, List.set_cons_zero, List.set_cons_succ, i64_w, i32_w]
          rfl
        refine take_ (i := 4) (N := some 21) (v := ?_) (a' := ?_) #[true, true, true, false, true, false, false, false, false, false, false, false, false, false, false, false] rfl rfl (take_ofW HT_.out HW_.out (by kernel_rfl)) (fun _ _ _ h => h) (Or.inl ⟨by rfl, ?_⟩) hHeld ?_ ?_
        rotate_left
        · rintro w' ⟨s0, s1, s2, s3, s4, s5⟩
          go_simp
          with_reducible rfl
        rotate_left
        · simp only [Act.put, List.setIfInBounds_toArray, List.set_cons_zero, List.set_cons_succ, i64_w, i32_w]
          rfl
        refine one_ (i := 3) (N := some 20) #[true, true, true, true, true, false, false, false, false, false, false, false, false, false, false, false] rfl rfl (one_of HT_.out (by kernel_rfl)) (by decide) (fun K hK => ?_)
        refine goes_ Try.func65 (by kernel_rfl) rfl #[.agg #[.int .i64 a0_0, .slice A0_1 l0_1.length c0_1, .int .i64 a0_2, .int .u64 a0_3, .string a0_4, .int .u64 a0_5]] (by rfl) rfl rfl (by (try simp only [List.map_toArray, List.map_cons, List.map_nil]); first | done | rfl | (simp only [List.length_drop, List.length_take]; rfl)) ?_
        with_reducible refine (types_Right.calls a0_0 _ _ l0_1 a0_2 a0_3 a0_4 a0_5 t121 _ ?side1 ?side2 A29.out).mono ?_
        (case side1 => repeat (first | exact (Kd.C_below HR0_1.out HB.out) | (with_reducible refine Kd.C_alloc ?_ _) | (with_reducible refine Kd.C_drewN ?_ _) | (with_reducible refine Kd.C_drew ?_)))
        (case side2 => exact HC0_1.out)
        rintro e w39 ⟨rfl, hb⟩
        refine ⟨_, rfl, ?_⟩
        have n0_ := amk (blk_below (g := gb115) (o := .cells #[.int .i64 a0_0, .slice A0_1 l0_1.length c0_1, .int .i64 a0_2, .int .u64 a0_3, .string a0_4, .int .u64 a0_5] 46 (0, 0)) (by (with_reducible repeat (first | refine blk_drewN ?_ _ | refine blk_drew ?_ | refine blk_alloc ?_ _)); exact BK115.out) hb)
        have n1_ := amk (below_step (by repeat (first | (with_reducible first | exact HB.out | apply bal | apply pbd | apply below_drew1 | refine below_set ?_ GE115.out) | exact HB.out)) hb)
        clear BK115
        clear HB
        have BK115 := n0_
        have HB := n1_
        clear n0_ n1_
        (try clear hb)
        (try clear hb2)
        (try clear hk)
        (try clear hi)
        refine hK.out _ _ ⟨(blk_cell BK115.out 0).trans rfl, (blk_cell BK115.out 1).trans rfl, (blk_cell BK115.out 2).trans rfl, (blk_cell BK115.out 3).trans rfl, (blk_cell BK115.out 4).trans rfl, (blk_cell BK115.out 5).trans rfl⟩ (fun hHeld => ?_)
        clear hK K
        refine norm_ (a' := ?_) ?_ ?_
        rotate_left
        · show Act.put _ (some 20) _ = _
          simp only [Act.put, List.setIfInBounds_toArray, List.set_cons_zero, List.set_cons_succ, i64_w, i32_w]
          rfl
        refine one_ (i := 5) (N := some 22) #[true, true, true, true, true, true, false, false, false, false, false, false, false, false, false, false] rfl rfl (one_of HT_.out (by kernel_rfl)) (by decide) (fun K hK => ?_)
        refine goes_ Try.func47 (by kernel_rfl) rfl #[.agg #[.int .i64 a0_0, .slice A0_1 l0_1.length c0_1, .int .i64 a0_2, .int .u64 a0_3, .string a0_4, .int .u64 a0_5]] (by rfl) rfl rfl (by (try simp only [List.map_toArray, List.map_cons, List.map_nil]); first | done | rfl | (simp only [List.length_drop, List.length_take]; rfl)) ?_
        with_reducible refine (doorwardref16_Right.calls k a0_0 _ _ l0_1 a0_2 a0_3 a0_4 a0_5 t122 _ ?side1 ?side2 A30.out).mono ?_
        (case side1 => repeat (first | exact (Kd.C_below HR0_1.out HB.out) | (with_reducible refine Kd.C_alloc ?_ _) | (with_reducible refine Kd.C_drewN ?_ _) | (with_reducible refine Kd.C_drew ?_)))
        (case side2 => exact HC0_1.out)
        rintro e w40 ⟨rfl, hb⟩
        refine ⟨_, rfl, ?_⟩
        have n0_ := amk (blk_below (g := gb115) (o := .cells #[.int .i64 a0_0, .slice A0_1 l0_1.length c0_1, .int .i64 a0_2, .int .u64 a0_3, .string a0_4, .int .u64 a0_5] 46 (0, 0)) (by (with_reducible repeat (first | refine blk_drewN ?_ _ | refine blk_drew ?_ | refine blk_alloc ?_ _)); exact BK115.out) hb)
        have n1_ := amk (below_step (by repeat (first | (with_reducible first | exact HB.out | apply bal | apply pbd | apply below_drew1 | refine below_set ?_ GE115.out) | exact HB.out)) hb)
        clear BK115
        clear HB
        have BK115 := n0_
        have HB := n1_
        clear n0_ n1_
        (try clear hb)
        (try clear hb2)
        (try clear hk)
        (try clear hi)
        refine hK.out _ _ ⟨(blk_cell BK115.out 0).trans rfl, (blk_cell BK115.out 1).trans rfl, (blk_cell BK115.out 2).trans rfl, (blk_cell BK115.out 3).trans rfl, (blk_cell BK115.out 4).trans rfl, (blk_cell BK115.out 5).trans rfl⟩ (fun hHeld => ?_)
        clear hK K
        refine norm_ (a' := ?_) ?_ ?_
        rotate_left
        · show Act.put _ (some 22) _ = _
          simp only [Act.put, List.setIfInBounds_toArray, List.set_cons_zero, List.set_cons_succ, i64_w, i32_w]
          rfl
        refine pure_ (i := 6) (N := some 23) (v := ?_) (a' := ?_) #[true, true, true, true, true, true, true, false, false, false, false, false, false, false, false, false] rfl rfl (any_of HT_.out (by kernel_rfl)) (fun _ _ _ h => h) (Or.inl ⟨by rfl, ?_⟩) ?_ ?_
        rotate_left
        · intro w'
          go_simp
          with_reducible rfl
        rotate_left
        · simp only [Act.put, List.setIfInBounds_toArray, List.set_cons_zero, List.set_cons_succ, i64_w, i32_w]
          rfl
        refine pure_ (i := 7) (N := some 24) (v := ?_) (a' := ?_) #[true, true, true, true, true, true, true, true, false, false, false, false, false, false, false, false] rfl rfl (any_of HT_.out (by kernel_rfl)) (fun _ _ _ h => h) (Or.inl ⟨by rfl, ?_⟩) ?_ ?_
        rotate_left
        · intro w'
          go_simp
          with_reducible rfl
        rotate_left
        · simp only [Act.put, List.setIfInBounds_toArray, List.set_cons_zero, List.set_cons_succ, i64_w, i32_w]
          rfl
        refine pure_ (i := 8) (N := some 25) (v := ?_) (a' := ?_) #[true, true, true, true, true, true, true, true, true, false, false, false, false, false, false, false] rfl rfl (any_of HT_.out (by kernel_rfl)) (fun _ _ _ h => h) (Or.inl ⟨by rfl, ?_⟩) ?_ ?_
        rotate_left
        · intro w'
          go_simp
          with_reducible rfl
        rotate_left
        · simp only [Act.put, List.setIfInBounds_toArray, List.set_cons_zero, List.set_cons_succ, i64_w, i32_w]
          rfl
        refine take_ (i := 9) (N := some 26) (v := ?_) (a' := ?_) #[true, true, true, true, true, true, true, true, true, true, false, false, false, false, false, false] rfl rfl (take_ofW HT_.out HW_.out (by kernel_rfl)) (fun _ _ _ h => h) (Or.inl ⟨by rfl, ?_⟩) hHeld ?_ ?_
        rotate_left
        · rintro w' ⟨s0, s1, s2, s3, s4, s5⟩
          go_simp
          with_reducible rfl
        rotate_left
        · simp only [Act.put, List.setIfInBounds_toArray, List.set_cons_zero, List.set_cons_succ, i64_w, i32_w]
          rfl
        refine take_ (i := 11) (N := some 28) (v := ?_) (a' := ?_) #[true, true, true, true, true, true, true, true, true, true, false, true, false, false, false, false] rfl rfl (take_ofW HT_.out HW_.out (by kernel_rfl)) (fun _ _ _ h => h) (Or.inl ⟨by rfl, ?_⟩) hHeld ?_ ?_
        rotate_left
        · rintro w' ⟨s0, s1, s2, s3, s4, s5⟩
          go_simp
          with_reducible rfl
        rotate_left
        · simp only [Act.put, List.setIfInBounds_toArray, List.set_cons_zero, List.set_cons_succ, i64_w, i32_w]
          rfl
        refine one_ (i := 10) (N := some 27) #[true, true, true, true, true, true, true, true, true, true, true, true, false, false, false, false] rfl rfl (one_of HT_.out (by kernel_rfl)) (by decide) (fun K hK => ?_)
        refine goes_ Try.func66 (by kernel_rfl) rfl #[.agg #[.int .i64 a0_0, .slice A0_1 l0_1.length c0_1, .int .i64 a0_2, .int .u64 a0_3, .string a0_4, .int .u64 a0_5]] (by rfl) rfl rfl (by (try simp only [List.map_toArray, List.map_cons, List.map_nil]); first | done | rfl | (simp only [List.length_drop, List.length_take]; rfl)) ?_
        with_reducible refine (types_Tests.calls a0_0 _ _ l0_1 a0_2 a0_3 a0_4 a0_5 t123 _ ?side1 ?side2 A32.out).mono ?_
        (case side1 => repeat (first | exact (Kd.C_below HR0_1.out HB.out) | (with_reducible refine Kd.C_alloc ?_ _) | (with_reducible refine Kd.C_drewN ?_ _) | (with_reducible refine Kd.C_drew ?_)))
        (case side2 => exact HC0_1.out)
        rintro e w41 ⟨rfl, hb⟩
        refine ⟨_, rfl, ?_⟩
        have n0_ := amk (blk_below (g := gb115) (o := .cells #[.int .i64 a0_0, .slice A0_1 l0_1.length c0_1, .int .i64 a0_2, .int .u64 a0_3, .string a0_4, .int .u64 a0_5] 46 (0, 0)) (by (with_reducible repeat (first | refine blk_drewN ?_ _ | refine blk_drew ?_ | refine blk_alloc ?_ _)); exact BK115.out) hb)
        have n1_ := amk (below_step (by repeat (first | (with_reducible first | exact HB.out | apply bal | apply pbd | apply below_drew1 | refine below_set ?_ GE115.out) | exact HB.out)) hb)
        clear BK115
        clear HB
        have BK115 := n0_
        have HB := n1_
        clear n0_ n1_
        (try clear hb)
        (try clear hb2)
        (try clear hk)
        (try clear hi)
        refine hK.out _ _ ⟨(blk_cell BK115.out 0).trans rfl, (blk_cell BK115.out 1).trans rfl, (blk_cell BK115.out 2).trans rfl, (blk_cell BK115.out 3).trans rfl, (blk_cell BK115.out 4).trans rfl, (blk_cell BK115.out 5).trans rfl⟩ (fun hHeld => ?_)
        clear hK K
        refine norm_ (a' := ?_) ?_ ?_
        rotate_left
        · show Act.put _ (some 27) _ = _
          simp only [Act.put, List.setIfInBounds_toArray, List.set_cons_zero, List.set_cons_succ, i64_w, i32_w]
          rfl
        refine one_ (i := 12) (N := some 29) #[true, true, true, true, true, true, true, true, true, true, true, true, true, false, false, false] rfl rfl (one_of HT_.out (by kernel_rfl)) (by decide) (fun K hK => ?_)
        refine goes_ Try.func62 (by kernel_rfl) rfl #[.agg #[.int .i64 a0_0, .slice A0_1 l0_1.length c0_1, .int .i64 a0_2, .int .u64 a0_3, .string a0_4, .int .u64 a0_5]] (by rfl) rfl rfl (by (try simp only [List.map_toArray, List.map_cons, List.map_nil]); first | done | rfl | (simp only [List.length_drop, List.length_take]; rfl)) ?_
        with_reducible refine (doorwardref16_Tests.calls k a0_0 _ _ l0_1 a0_2 a0_3 a0_4 a0_5 t124 _ ?side1 ?side2 A33.out).mono ?_
        (case side1 => repeat (first | exact (Kd.C_below HR0_1.out HB.out) | (with_reducible refine Kd.C_alloc ?_ _) | (with_reducible refine Kd.C_drewN ?_ _) | (with_reducible refine Kd.C_drew ?_)))
        (case side2 => exact HC0_1.out)
        rintro e w42 ⟨rfl, hb⟩
        refine ⟨_, rfl, ?_⟩
        have n0_ := amk (blk_below (g := gb115) (o := .cells #[.int .i64 a0_0, .slice A0_1 l0_1.length c0_1, .int .i64 a0_2, .int .u64 a0_3, .string a0_4, .int .u64 a0_5] 46 (0, 0)) (by (with_reducible repeat (first | refine blk_drewN ?_ _ | refine blk_drew ?_ | refine blk_alloc ?_ _)); exact BK115.out) hb)
        have n1_ := amk (below_step (by repeat (first | (with_reducible first | exact HB.out | apply bal | apply pbd | apply below_drew1 | refine below_set ?_ GE115.out) | exact HB.out)) hb)
        clear BK115
        clear HB
        have BK115 := n0_
        have HB := n1_
        clear n0_ n1_
        (try clear hb)
        (try clear hb2)
        (try clear hk)
        (try clear hi)
        refine hK.out _ _ ⟨(blk_cell BK115.out 0).trans rfl, (blk_cell BK115.out 1).trans rfl, (blk_cell BK115.out 2).trans rfl, (blk_cell BK115.out 3).trans rfl, (blk_cell BK115.out 4).trans rfl, (blk_cell BK115.out 5).trans rfl⟩ (fun hHeld => ?_)
        clear hK K
        refine norm_ (a' := ?_) ?_ ?_
        rotate_left
        · show Act.put _ (some 29) _ = _
          simp only [Act.put, List.setIfInBounds_toArray, List.set_cons_zero, List.set_cons_succ, i64_w, i32_w]
          rfl
        refine pure_ (i := 13) (N := some 30) (v := ?_) (a' := ?_) #[true, true, true, true, true, true, true, true, true, true, true, true, true, true, false, false] rfl rfl (any_of HT_.out (by kernel_rfl)) (fun _ _ _ h => h) (Or.inl ⟨by rfl, ?_⟩) ?_ ?_
        rotate_left
        · intro w'
          go_simp
          with_reducible rfl
        rotate_left
        · simp only [Act.put, List.setIfInBounds_toArray, List.set_cons_zero, List.set_cons_succ, i64_w, i32_w]
          rfl
        refine pure_ (i := 14) (N := some 31) (v := ?_) (a' := ?_) #[true, true, true, true, true, true, true, true, true, true, true, true, true, true, true, false] rfl rfl (any_of HT_.out (by kernel_rfl)) (fun _ _ _ h => h) (Or.inl ⟨by rfl, ?_⟩) ?_ ?_
        rotate_left
        · intro w'
          go_simp
          with_reducible rfl
        rotate_left
        · simp only [Act.put, List.setIfInBounds_toArray, List.set_cons_zero, List.set_cons_succ, i64_w, i32_w]
          rfl
        refine pure_ (i := 15) (N := some 2) (v := ?_) (a' := ?_) #[true, true, true, true, true, true, true, true, true, true, true, true, true, true, true, true] rfl rfl (any_of HT_.out (by kernel_rfl)) (fun _ _ _ h => h) (Or.inl ⟨by rfl, ?_⟩) ?_ ?_
        rotate_left
        · intro w'
          go_simp
          with_reducible rfl
        rotate_left
        · simp only [Act.put, List.setIfInBounds_toArray, List.set_cons_zero, List.set_cons_succ, i64_w, i32_w]
          rfl
        refine done_ (done_of HT_.out (by kernel_rfl)) ?_
        try go_wp2
        go_ret
        exact ⟨by first | rfl | (simp [errW_none, errW_some] <;> rfl) | (simp [*, errW_none, errW_some] <;> rfl), by repeat (first | (with_reducible first | exact HB.out | apply bal | apply pbd | apply below_drew1 | refine below_set ?_ GE115.out) | exact HB.out)⟩
      · rw [if_neg c31] at H
        have c31b0 : (t121 == t122) = false := by simpa using c31
        (try (have c31b1 : decide (t121 = t122) = false := by simpa using c31))
        (try (have c31b2 : (t121 == t122) = false := by simpa using c31))
        (try (have c31b3 : ¬ (t121 = t122) := by simpa using c31))
        clear c31
        obtain rfl := Option.some.inj H
        go_enter Try.func20, Try.ntmps20
        try go_wp2_with (first | ((with_reducible refine gate_dst (N := 1) rfl ?_); refine box_event ?hg (N := 1) ?hd (cs := #[.int .i64 a0_0, .slice A0_1 l0_1.length c0_1, .int .i64 a0_2, .int .u64 a0_3, .string a0_4, .int .u64 a0_5]) (t := 46) ?hr ?_; (case hd => rfl); (case hg => rfl); (case hr => first | (go_simp; done) | (go_simp; rfl)); intro gb115 hg w43 hbox hb; have n0_ := amk (below_step (by repeat (first | (with_reducible first | exact HB.out | apply bal | apply pbd | apply below_drew1) | exact HB.out)) hb); have n1_ := amk (hbox); have n2_ := amk ((by rw [hg]; exact (below_size (by repeat (first | (with_reducible first | exact HB.out | apply bal | apply pbd | apply below_drew1) | exact HB.out))) : w.heap.size ≤ gb115)); have n3_ := amk ((by rw [hg]; exact (below_size (by repeat (first | (with_reducible first | exact HB.out | apply bal | apply pbd | apply below_drew1) | exact HB.out))) : w.heap.size ≤ gb115)); clear HB; have HB := n0_; have BK115 := n1_; have GW115 := n2_; have GE115 := n3_; clear n0_ n1_ n2_ n3_; clear hb hbox hg; have hcz44_0 : w43.cell? ⟨gb115, 0, none⟩ = some (.int .i64 a0_0) := (blk_cell BK115.out 0).trans rfl; have hcz44_1 : w43.cell? ⟨gb115, 1, none⟩ = some (.slice A0_1 l0_1.length c0_1) := (blk_cell BK115.out 1).trans rfl; have hcz44_2 : w43.cell? ⟨gb115, 2, none⟩ = some (.int .i64 a0_2) := (blk_cell BK115.out 2).trans rfl; have hcz44_3 : w43.cell? ⟨gb115, 3, none⟩ = some (.int .u64 a0_3) := (blk_cell BK115.out 3).trans rfl; have hcz44_4 : w43.cell? ⟨gb115, 4, none⟩ = some (.string a0_4) := (blk_cell BK115.out 4).trans rfl; have hcz44_5 : w43.cell? ⟨gb115, 5, none⟩ = some (.int .u64 a0_5) := (blk_cell BK115.out 5).trans rfl; have hfz44_0 := blk_frozen BK115.out 0; have hfz44_1 := blk_frozen BK115.out 1; have hfz44_2 := blk_frozen BK115.out 2; have hfz44_3 := blk_frozen BK115.out 3; have hfz44_4 := blk_frozen BK115.out 4; have hfz44_5 := blk_frozen BK115.out 5) | ((with_reducible refine gate_callee (f := 43) rfl ?_); refine goesL_ (some 4) rfl rfl Try.func43 (by kernel_rfl) rfl #[.agg #[.int .i64 a0_0, .slice A0_1 l0_1.length c0_1, .int .i64 a0_2, .int .u64 a0_3, .string a0_4, .int .u64 a0_5], .int .i64 200] rfl (by (try simp only [List.map_toArray, List.map_cons, List.map_nil]); first | done | rfl | (simp only [List.length_drop, List.length_take]; rfl)) ?_; (with_reducible refine (doorwardref15_Many.calls a0_0 _ _ l0_1 a0_2 a0_3 a0_4 a0_5 200 t116 _ ?side1 ?side2 A2.out).mono ?_); (case side1 => repeat (first | exact (Kd.C_below HR0_1.out HB.out) | (with_reducible refine Kd.C_alloc ?_ _) | (with_reducible refine Kd.C_drewN ?_ _) | (with_reducible refine Kd.C_drew ?_))); (case side2 => exact HC0_1.out); rintro e w45 ⟨rfl, hb⟩; refine ⟨_, rfl, ?_⟩; have n0_ := amk (blk_below (g := gb115) (o := .cells #[.int .i64 a0_0, .slice A0_1 l0_1.length c0_1, .int .i64 a0_2, .int .u64 a0_3, .string a0_4, .int .u64 a0_5] 46 (0, 0)) (by (with_reducible repeat (first | refine blk_drewN ?_ _ | refine blk_drew ?_ | refine blk_alloc ?_ _)); exact BK115.out) hb); have n1_ := amk (below_step (by repeat (first | (with_reducible first | exact HB.out | apply bal | apply pbd | apply below_drew1 | refine below_set ?_ GE115.out) | exact HB.out)) hb); clear BK115; clear HB; have BK115 := n0_; have HB := n1_; clear n0_ n1_; (try clear hb); (try clear hb2); (try clear hk); (try clear hi)))
        have n0_ := amk (blk_drew BK115.out)
        have n1_ := amk (below_drew1 HB.out)
        clear BK115
        clear HB
        have BK115 := n0_
        have HB := n1_
        clear n0_ n1_
        refine start_ (n := 16) (S := fun w' => w'.cell? ⟨gb115, 0, none⟩ = some (.int .i64 a0_0) ∧ w'.cell? ⟨gb115, 1, none⟩ = some (.slice A0_1 l0_1.length c0_1) ∧ w'.cell? ⟨gb115, 2, none⟩ = some (.int .i64 a0_2) ∧ w'.cell? ⟨gb115, 3, none⟩ = some (.int .u64 a0_3) ∧ w'.cell? ⟨gb115, 4, none⟩ = some (.string a0_4) ∧ w'.cell? ⟨gb115, 5, none⟩ = some (.int .u64 a0_5)) (ds := []) #[false, false, false, false, false, false, false, false, false, false, false, false, false, false, false, false] (by kernel_rfl) rfl rfl ⟨(blk_cell BK115.out 0).trans rfl, (blk_cell BK115.out 1).trans rfl, (blk_cell BK115.out 2).trans rfl, (blk_cell BK115.out 3).trans rfl, (blk_cell BK115.out 4).trans rfl, (blk_cell BK115.out 5).trans rfl⟩ (fun hHeld => ?_); refine with_tabW doorwardlaw16_TypesConds.tab3 doorwardlaw16_TypesConds.bits3 (fun HT_ HW_ => ?_)
        generalize w45.drew = w46 at BK115 HB hHeld ⊢
        refine one_ (i := 0) (N := some 17) #[true, false, false, false, false, false, false, false, false, false, false, false, false, false, false, false] rfl rfl (one_of HT_.out (by kernel_rfl)) (by decide) (fun K hK => ?_)
        refine goes_ Try.func64 (by kernel_rfl) rfl #[] (by rfl) rfl rfl (by (try simp only [List.map_toArray, List.map_cons, List.map_nil]); first | done | rfl | (simp only [List.length_drop, List.length_take]; rfl)) ?_
        with_reducible refine (doorwardlaw16_alive.calls  true _ A27.out).mono ?_
        rintro e w47 ⟨rfl, hb⟩
        refine ⟨_, rfl, ?_⟩
        have n0_ := amk (blk_below (g := gb115) (o := .cells #[.int .i64 a0_0, .slice A0_1 l0_1.length c0_1, .int .i64 a0_2, .int .u64 a0_3, .string a0_4, .int .u64 a0_5] 46 (0, 0)) (by (with_reducible repeat (first | refine blk_drewN ?_ _ | refine blk_drew ?_ | refine blk_alloc ?_ _)); exact BK115.out) hb)
        have n1_ := amk (below_step (by repeat (first | (with_reducible first | exact HB.out | apply bal | apply pbd | apply below_drew1 | refine below_set ?_ GE115.out) | exact HB.out)) hb)
        clear BK115
        clear HB
        have BK115 := n0_
        have HB := n1_
        clear n0_ n1_
        (try clear hb)
        (try clear hb2)
        (try clear hk)
        (try clear hi)
        refine hK.out _ _ ⟨(blk_cell BK115.out 0).trans rfl, (blk_cell BK115.out 1).trans rfl, (blk_cell BK115.out 2).trans rfl, (blk_cell BK115.out 3).trans rfl, (blk_cell BK115.out 4).trans rfl, (blk_cell BK115.out 5).trans rfl⟩ (fun hHeld => ?_)
        clear hK K
        refine norm_ (a' := ?_) ?_ ?_
        rotate_left
        · show Act.put _ (some 17) _ = _
          simp only [Act.put, List.setIfInBounds_toArray, List.set_cons_zero, List.set_cons_succ, i64_w, i32_w]
          rfl
        refine pure_ (i := 1) (N := some 18) (v := ?_) (a' := ?_) #[true, true, false, false, false, false, false, false, false, false, false, false, false, false, false, false] rfl rfl (any_of HT_.out (by kernel_rfl)) (fun _ _ _ h => h) (Or.inl ⟨by rfl, ?_⟩) ?_ ?_
        rotate_left
        · intro w'
          go_simp
          with_reducible rfl
        rotate_left
        · simp only [Act.put, List.setIfInBounds_toArray, List.set_cons_zero, List.set_cons_succ, i64_w, i32_w]
          rfl
        refine take_ (i := 2) (N := some 19) (v := ?_) (a' := ?_) #[true, true, true, false, false, false, false, false, false, false, false, false, false, false, false, false] rfl rfl (take_ofW HT_.out HW_.out (by kernel_rfl)) (fun _ _ _ h => h) (Or.inl ⟨by rfl, ?_⟩) hHeld ?_ ?_
        rotate_left
        · rintro w' ⟨s0, s1, s2, s3, s4, s5⟩
          go_simp
          with_reducible rfl
        rotate_left
        · simp only [Act.put, List.setIfInBounds_toArray, List.set_cons_zero, List.set_cons_succ, i64_w, i32_w]
          rfl
        refine take_ (i := 4) (N := some 21) (v := ?_) (a' := ?_) #[true, true, true, false, true, false, false, false, false, false, false, false, false, false, false, false] rfl rfl (take_ofW HT_.out HW_.out (by kernel_rfl)) (fun _ _ _ h => h) (Or.inl ⟨by rfl, ?_⟩) hHeld ?_ ?_
        rotate_left
        · rintro w' ⟨s0, s1, s2, s3, s4, s5⟩
          go_simp
          with_reducible rfl
        rotate_left
        · simp only [Act.put, List.setIfInBounds_toArray, List.set_cons_zero, List.set_cons_succ, i64_w, i32_w]
          rfl
        refine one_ (i := 3) (N := some 20) #[true, true, true, true, true, false, false, false, false, false, false, false, false, false, false, false] rfl rfl (one_of HT_.out (by kernel_rfl)) (by decide) (fun K hK => ?_)
        refine goes_ Try.func65 (by kernel_rfl) rfl #[.agg #[.int .i64 a0_0, .slice A0_1 l0_1.length c0_1, .int .i64 a0_2, .int .u64 a0_3, .string a0_4, .int .u64 a0_5]] (by rfl) rfl rfl (by (try simp only [List.map_toArray, List.map_cons, List.map_nil]); first | done | rfl | (simp only [List.length_drop, List.length_take]; rfl)) ?_
        with_reducible refine (types_Right.calls a0_0 _ _ l0_1 a0_2 a0_3 a0_4 a0_5 t121 _ ?side1 ?side2 A29.out).mono ?_
        (case side1 => repeat (first | exact (Kd.C_below HR0_1.out HB.out) | (with_reducible refine Kd.C_alloc ?_ _) | (with_reducible refine Kd.C_drewN ?_ _) | (with_reducible refine Kd.C_drew ?_)))
        (case side2 => exact HC0_1.out)
        rintro e w48 ⟨rfl, hb⟩
        refine ⟨_, rfl, ?_⟩
        have n0_ := amk (blk_below (g := gb115) (o := .cells #[.int .i64 a0_0, .slice A0_1 l0_1.length c0_1, .int .i64 a0_2, .int .u64 a0_3, .string a0_4, .int .u64 a0_5] 46 (0, 0)) (by (with_reducible repeat (first | refine blk_drewN ?_ _ | refine blk_drew ?_ | refine blk_alloc ?_ _)); exact BK115.out) hb)
        have n1_ := amk (below_step (by repeat (first | (with_reducible first | exact HB.out | apply bal | apply pbd | apply below_drew1 | refine below_set ?_ GE115.out) | exact HB.out)) hb)
        clear BK115
        clear HB
        have BK115 := n0_
        have HB := n1_
        clear n0_ n1_
        (try clear hb)
        (try clear hb2)
        (try clear hk)
        (try clear hi)
        refine hK.out _ _ ⟨(blk_cell BK115.out 0).trans rfl, (blk_cell BK115.out 1).trans rfl, (blk_cell BK115.out 2).trans rfl, (blk_cell BK115.out 3).trans rfl, (blk_cell BK115.out 4).trans rfl, (blk_cell BK115.out 5).trans rfl⟩ (fun hHeld => ?_)
        clear hK K
        refine norm_ (a' := ?_) ?_ ?_
        rotate_left
        · show Act.put _ (some 20) _ = _
          simp only [Act.put, List.setIfInBounds_toArray, List.set_cons_zero, List.set_cons_succ, i64_w, i32_w]
          rfl
        refine one_ (i := 5) (N := some 22) #[true, true, true, true, true, true, false, false, false, false, false, false, false, false, false, false] rfl rfl (one_of HT_.out (by kernel_rfl)) (by decide) (fun K hK => ?_)
        refine goes_ Try.func47 (by kernel_rfl) rfl #[.agg #[.int .i64 a0_0, .slice A0_1 l0_1.length c0_1, .int .i64 a0_2, .int .u64 a0_3, .string a0_4, .int .u64 a0_5]] (by rfl) rfl rfl (by (try simp only [List.map_toArray, List.map_cons, List.map_nil]); first | done | rfl | (simp only [List.length_drop, List.length_take]; rfl)) ?_
        with_reducible refine (doorwardref16_Right.calls k a0_0 _ _ l0_1 a0_2 a0_3 a0_4 a0_5 t122 _ ?side1 ?side2 A30.out).mono ?_
        (case side1 => repeat (first | exact (Kd.C_below HR0_1.out HB.out) | (with_reducible refine Kd.C_alloc ?_ _) | (with_reducible refine Kd.C_drewN ?_ _) | (with_reducible refine Kd.C_drew ?_)))
        (case side2 => exact HC0_1.out)
        rintro e w49 ⟨rfl, hb⟩
        refine ⟨_, rfl, ?_⟩
        have n0_ := amk (blk_below (g := gb115) (o := .cells #[.int .i64 a0_0, .slice A0_1 l0_1.length c0_1, .int .i64 a0_2, .int .u64 a0_3, .string a0_4, .int .u64 a0_5] 46 (0, 0)) (by (with_reducible repeat (first | refine blk_drewN ?_ _ | refine blk_drew ?_ | refine blk_alloc ?_ _)); exact BK115.out) hb)
        have n1_ := amk (below_step (by repeat (first | (with_reducible first | exact HB.out | apply bal | apply pbd | apply below_drew1 | refine below_set ?_ GE115.out) | exact HB.out)) hb)
        clear BK115
        clear HB
        have BK115 := n0_
        have HB := n1_
        clear n0_ n1_
        (try clear hb)
        (try clear hb2)
        (try clear hk)
        (try clear hi)
        refine hK.out _ _ ⟨(blk_cell BK115.out 0).trans rfl, (blk_cell BK115.out 1).trans rfl, (blk_cell BK115.out 2).trans rfl, (blk_cell BK115.out 3).trans rfl, (blk_cell BK115.out 4).trans rfl, (blk_cell BK115.out 5).trans rfl⟩ (fun hHeld => ?_)
        clear hK K
        refine norm_ (a' := ?_) ?_ ?_
        rotate_left
        · show Act.put _ (some 22) _ = _
          simp only [Act.put, List.setIfInBounds_toArray, List.set_cons_zero, List.set_cons_succ, i64_w, i32_w]
          rfl
        refine pure_ (i := 6) (N := some 23) (v := ?_) (a' := ?_) #[true, true, true, true, true, true, true, false, false, false, false, false, false, false, false, false] rfl rfl (any_of HT_.out (by kernel_rfl)) (fun _ _ _ h => h) (Or.inl ⟨by rfl, ?_⟩) ?_ ?_
        rotate_left
        · intro w'
          go_simp
          with_reducible rfl
        rotate_left
        · simp only [Act.put, List.setIfInBounds_toArray, List.set_cons_zero, List.set_cons_succ, i64_w, i32_w]
          rfl
        refine pure_ (i := 7) (N := some 24) (v := ?_) (a' := ?_) #[true, true, true, true, true, true, true, true, false, false, false, false, false, false, false, false] rfl rfl (any_of HT_.out (by kernel_rfl)) (fun _ _ _ h => h) (Or.inl ⟨by rfl, ?_⟩) ?_ ?_
        rotate_left
        · intro w'
          go_simp
          with_reducible rfl
        rotate_left
        · simp only [Act.put, List.setIfInBounds_toArray, List.set_cons_zero, List.set_cons_succ, i64_w, i32_w]
          rfl
        refine pure_ (i := 8) (N := some 25) (v := ?_) (a' := ?_) #[true, true, true, true, true, true, true, true, true, false, false, false, false, false, false, false] rfl rfl (any_of HT_.out (by kernel_rfl)) (fun _ _ _ h => h) (Or.inl ⟨by rfl, ?_⟩) ?_ ?_
        rotate_left
        · intro w'
          go_simp
          with_reducible rfl
        rotate_left
        · simp only [Act.put, List.setIfInBounds_toArray, List.set_cons_zero, List.set_cons_succ, i64_w, i32_w]
          rfl
        refine pure_ (i := 9) (N := some 26) (v := undef) (a' := ?_) #[true, true, true, true, true, true, true, true, true, true, false, false, false, false, false, false] rfl rfl (any_of HT_.out (by kernel_rfl)) (fun _ _ _ h => h) (Or.inr ⟨by rfl, rfl⟩) ?_ ?_
        rotate_left
        · simp only [Act.put, List.setIfInBounds_toArray, List.set_cons_zero, List.set_cons_succ, i64_w, i32_w]
          rfl
        refine pure_ (i := 10) (N := some 27) (v := undef) (a' := ?_) #[true, true, true, true, true, true, true, true, true, true, true, false, false, false, false, false] rfl rfl (any_of HT_.out (by kernel_rfl)) (fun _ _ _ h => h) (Or.inr ⟨by rfl, rfl⟩) ?_ ?_
        rotate_left
        · simp only [Act.put, List.setIfInBounds_toArray, List.set_cons_zero, List.set_cons_succ, i64_w, i32_w]
          rfl
        refine pure_ (i := 11) (N := some 28) (v := undef) (a' := ?_) #[true, true, true, true, true, true, true, true, true, true, true, true, false, false, false, false] rfl rfl (any_of HT_.out (by kernel_rfl)) (fun _ _ _ h => h) (Or.inr ⟨by rfl, rfl⟩) ?_ ?_
        rotate_left
        · simp only [Act.put, List.setIfInBounds_toArray, List.set_cons_zero, List.set_cons_succ, i64_w, i32_w]
          rfl
        refine pure_ (i := 12) (N := some 29) (v := undef) (a' := ?_) #[true, true, true, true, true, true, true, true, true, true, true, true, true, false, false, false] rfl rfl (any_of HT_.out (by kernel_rfl)) (fun _ _ _ h => h) (Or.inr ⟨by rfl, rfl⟩) ?_ ?_
        rotate_left
        · simp only [Act.put, List.setIfInBounds_toArray, List.set_cons_zero, List.set_cons_succ, i64_w, i32_w]
          rfl
        refine pure_ (i := 13) (N := some 30) (v := undef) (a' := ?_) #[true, true, true, true, true, true, true, true, true, true, true, true, true, true, false, false] rfl rfl (any_of HT_.out (by kernel_rfl)) (fun _ _ _ h => h) (Or.inr ⟨by rfl, rfl⟩) ?_ ?_
        rotate_left
        · simp only [Act.put, List.setIfInBounds_toArray, List.set_cons_zero, List.set_cons_succ, i64_w, i32_w]
          rfl
        refine pure_ (i := 14) (N := some 31) (v := ?_) (a' := ?_) #[true, true, true, true, true, true, true, true, true, true, true, true, true, true, true, false] rfl rfl (any_of HT_.out (by kernel_rfl)) (fun _ _ _ h => h) (Or.inl ⟨by rfl, ?_⟩) ?_ ?_
        rotate_left
        · intro w'
          go_simp
          with_reducible rfl
        rotate_left
        · simp only [Act.put, List.setIfInBounds_toArray, List.set_cons_zero, List.set_cons_succ, i64_w, i32_w]
          rfl
        refine pure_ (i := 15) (N := some 2) (v := ?_) (a' := ?_) #[true, true, true, true, true, true, true, true, true, true, true, true, true, true, true, true] rfl rfl (any_of HT_.out (by kernel_rfl)) (fun _ _ _ h => h) (Or.inl ⟨by rfl, ?_⟩) ?_ ?_
        rotate_left
        · intro w'
          go_simp
          with_reducible rfl
        rotate_left
        · simp only [Act.put, List.setIfInBounds_toArray, List.set_cons_zero, List.set_cons_succ, i64_w, i32_w]
          rfl
        refine done_ (done_of HT_.out (by kernel_rfl)) ?_
        try go_wp2
        go_ret
        exact ⟨by first | rfl | (simp [errW_none, errW_some] <;> rfl) | (simp [*, errW_none, errW_some] <;> rfl), by repeat (first | (with_reducible first | exact HB.out | apply bal | apply pbd | apply below_drew1 | refine below_set ?_ GE115.out) | exact HB.out)⟩
    · replace c28 := Bool.eq_false_iff.mpr c28
      subst c28
      have H1 : (some false) = some r := by rw [if_neg (show ¬ (false = true) by decide)] at H; exact H
      clear H
      have H := H1
      clear H1
      obtain rfl := Option.some.inj H
      go_enter Try.func20, Try.ntmps20
      try go_wp2_with (first | ((with_reducible refine gate_dst (N := 1) rfl ?_); refine box_event ?hg (N := 1) ?hd (cs := #[.int .i64 a0_0, .slice A0_1 l0_1.length c0_1, .int .i64 a0_2, .int .u64 a0_3, .string a0_4, .int .u64 a0_5]) (t := 46) ?hr ?_; (case hd => rfl); (case hg => rfl); (case hr => first | (go_simp; done) | (go_simp; rfl)); intro gb115 hg w50 hbox hb; have n0_ := amk (below_step (by repeat (first | (with_reducible first | exact HB.out | apply bal | apply pbd | apply below_drew1) | exact HB.out)) hb); have n1_ := amk (hbox); have n2_ := amk ((by rw [hg]; exact (below_size (by repeat (first | (with_reducible first | exact HB.out | apply bal | apply pbd | apply below_drew1) | exact HB.out))) : w.heap.size ≤ gb115)); have n3_ := amk ((by rw [hg]; exact (below_size (by repeat (first | (with_reducible first | exact HB.out | apply bal | apply pbd | apply below_drew1) | exact HB.out))) : w.heap.size ≤ gb115)); clear HB; have HB := n0_; have BK115 := n1_; have GW115 := n2_; have GE115 := n3_; clear n0_ n1_ n2_ n3_; clear hb hbox hg; have hcz51_0 : w50.cell? ⟨gb115, 0, none⟩ = some (.int .i64 a0_0) := (blk_cell BK115.out 0).trans rfl; have hcz51_1 : w50.cell? ⟨gb115, 1, none⟩ = some (.slice A0_1 l0_1.length c0_1) := (blk_cell BK115.out 1).trans rfl; have hcz51_2 : w50.cell? ⟨gb115, 2, none⟩ = some (.int .i64 a0_2) := (blk_cell BK115.out 2).trans rfl; have hcz51_3 : w50.cell? ⟨gb115, 3, none⟩ = some (.int .u64 a0_3) := (blk_cell BK115.out 3).trans rfl; have hcz51_4 : w50.cell? ⟨gb115, 4, none⟩ = some (.string a0_4) := (blk_cell BK115.out 4).trans rfl; have hcz51_5 : w50.cell? ⟨gb115, 5, none⟩ = some (.int .u64 a0_5) := (blk_cell BK115.out 5).trans rfl; have hfz51_0 := blk_frozen BK115.out 0; have hfz51_1 := blk_frozen BK115.out 1; have hfz51_2 := blk_frozen BK115.out 2; have hfz51_3 := blk_frozen BK115.out 3; have hfz51_4 := blk_frozen BK115.out 4; have hfz51_5 := blk_frozen BK115.out 5) | ((with_reducible refine gate_callee (f := 43) rfl ?_); refine goesL_ (some 4) rfl rfl Try.func43 (by kernel_rfl) rfl #[.agg #[.int .i64 a0_0, .slice A0_1 l0_1.length c0_1, .int .i64 a0_2, .int .u64 a0_3, .string a0_4, .int .u64 a0_5], .int .i64 200] rfl (by (try simp only [List.map_toArray, List.map_cons, List.map_nil]); first | done | rfl | (simp only [List.length_drop, List.length_take]; rfl)) ?_; (with_reducible refine (doorwardref15_Many.calls a0_0 _ _ l0_1 a0_2 a0_3 a0_4 a0_5 200 t116 _ ?side1 ?side2 A2.out).mono ?_); (case side1 => repeat (first | exact (Kd.C_below HR0_1.out HB.out) | (with_reducible refine Kd.C_alloc ?_ _) | (with_reducible refine Kd.C_drewN ?_ _) | (with_reducible refine Kd.C_drew ?_))); (case side2 => exact HC0_1.out); rintro e w52 ⟨rfl, hb⟩; refine ⟨_, rfl, ?_⟩; have n0_ := amk (blk_below (g := gb115) (o := .cells #[.int .i64 a0_0, .slice A0_1 l0_1.length c0_1, .int .i64 a0_2, .int .u64 a0_3, .string a0_4, .int .u64 a0_5] 46 (0, 0)) (by (with_reducible repeat (first | refine blk_drewN ?_ _ | refine blk_drew ?_ | refine blk_alloc ?_ _)); exact BK115.out) hb); have n1_ := amk (below_step (by repeat (first | (with_reducible first | exact HB.out | apply bal | apply pbd | apply below_drew1 | refine below_set ?_ GE115.out) | exact HB.out)) hb); clear BK115; clear HB; have BK115 := n0_; have HB := n1_; clear n0_ n1_; (try clear hb); (try clear hb2); (try clear hk); (try clear hi)))
      have n0_ := amk (blk_drew BK115.out)
      have n1_ := amk (below_drew1 HB.out)
      clear BK115
      clear HB
      have BK115 := n0_
      have HB := n1_
      clear n0_ n1_
      refine start_ (n := 16) (S := fun w' => True) (ds := []) #[false, false, false, false, false, false, false, false, false, false, false, false, false, false, false, false] (by kernel_rfl) rfl rfl trivial (fun hHeld => ?_); refine with_tabW doorwardlaw16_TypesConds.tab3 doorwardlaw16_TypesConds.bits3 (fun HT_ HW_ => ?_)
      generalize w52.drew = w53 at BK115 HB hHeld ⊢
      refine one_ (i := 0) (N := some 17) #[true, false, false, false, false, false, false, false, false, false, false, false, false, false, false, false] rfl rfl (one_of HT_.out (by kernel_rfl)) (by decide) (fun K hK => ?_)
      refine goes_ Try.func64 (by kernel_rfl) rfl #[] (by rfl) rfl rfl (by (try simp only [List.map_toArray, List.map_cons, List.map_nil]); first | done | rfl | (simp only [List.length_drop, List.length_take]; rfl)) ?_
      with_reducible refine (doorwardlaw16_alive.calls  false _ A27.out).mono ?_
      rintro e w54 ⟨rfl, hb⟩
      refine ⟨_, rfl, ?_⟩
      have n0_ := amk (blk_below (g := gb115) (o := .cells #[.int .i64 a0_0, .slice A0_1 l0_1.length c0_1, .int .i64 a0_2, .int .u64 a0_3, .string a0_4, .int .u64 a0_5] 46 (0, 0)) (by (with_reducible repeat (first | refine blk_drewN ?_ _ | refine blk_drew ?_ | refine blk_alloc ?_ _)); exact BK115.out) hb)
      have n1_ := amk (below_step (by repeat (first | (with_reducible first | exact HB.out | apply bal | apply pbd | apply below_drew1 | refine below_set ?_ GE115.out) | exact HB.out)) hb)
      clear BK115
      clear HB
      have BK115 := n0_
      have HB := n1_
      clear n0_ n1_
      (try clear hb)
      (try clear hb2)
      (try clear hk)
      (try clear hi)
      refine hK.out _ _ trivial (fun hHeld => ?_)
      clear hK K
      refine norm_ (a' := ?_) ?_ ?_
      rotate_left
      · show Act.put _ (some 17) _ = _
        simp only [Act.put, List.setIfInBounds_toArray, List.set_cons_zero, List.set_cons_succ, i64_w, i32_w]
        rfl
      refine pure_ (i := 1) (N := some 18) (v := ?_) (a' := ?_) #[true, true, false, false, false, false, false, false, false, false, false, false, false, false, false, false] rfl rfl (any_of HT_.out (by kernel_rfl)) (fun _ _ _ h => h) (Or.inl ⟨by rfl, ?_⟩) ?_ ?_
      rotate_left
      · intro w'
        go_simp
        with_reducible rfl
      rotate_left
      · simp only [Act.put, List.setIfInBounds_toArray, List.set_cons_zero, List.set_cons_succ, i64_w, i32_w]
        rfl
      refine pure_ (i := 2) (N := some 19) (v := undef) (a' := ?_) #[true, true, true, false, false, false, false, false, false, false, false, false, false, false, false, false] rfl rfl (any_of HT_.out (by kernel_rfl)) (fun _ _ _ h => h) (Or.inr ⟨by rfl, rfl⟩) ?_ ?_
      rotate_left
      · simp only [Act.put, List.setIfInBounds_toArray, List.set_cons_zero, List.set_cons_succ, i64_w, i32_w]
        rfl
      refine pure_ (i := 3) (N := some 20) (v := undef) (a' := ?_) #[true, true, true, true, false, false, false, false, false, false, false, false, false, false, false, false] rfl rfl (any_of HT_.out (by kernel_rfl)) (fun _ _ _ h => h) (Or.inr ⟨by rfl, rfl⟩) ?_ ?_
      rotate_left
      · simp only [Act.put, List.setIfInBounds_toArray, List.set_cons_zero, List.set_cons_succ, i64_w, i32_w]
        rfl
      refine pure_ (i := 4) (N := some 21) (v := undef) (a' := ?_) #[true, true, true, true, true, false, false, false, false, false, false, false, false, false, false, false] rfl rfl (any_of HT_.out (by kernel_rfl)) (fun _ _ _ h => h) (Or.inr ⟨by rfl, rfl⟩) ?_ ?_
      rotate_left
      · simp only [Act.put, List.setIfInBounds_toArray, List.set_cons_zero, List.set_cons_succ, i64_w, i32_w]
        rfl
      refine pure_ (i := 5) (N := some 22) (v := undef) (a' := ?_) #[true, true, true, true, true, true, false, false, false, false, false, false, false, false, false, false] rfl rfl (any_of HT_.out (by kernel_rfl)) (fun _ _ _ h => h) (Or.inr ⟨by rfl, rfl⟩) ?_ ?_
      rotate_left
      · simp only [Act.put, List.setIfInBounds_toArray, List.set_cons_zero, List.set_cons_succ, i64_w, i32_w]
        rfl
      refine pure_ (i := 6) (N := some 23) (v := undef) (a' := ?_) #[true, true, true, true, true, true, true, false, false, false, false, false, false, false, false, false] rfl rfl (any_of HT_.out (by kernel_rfl)) (fun _ _ _ h => h) (Or.inr ⟨by rfl, rfl⟩) ?_ ?_
      rotate_left
      · simp only [Act.put, List.setIfInBounds_toArray, List.set_cons_zero, List.set_cons_succ, i64_w, i32_w]
        rfl
      refine pure_ (i := 7) (N := some 24) (v := ?_) (a' := ?_) #[true, true, true, true, true, true, true, true, false, false, false, false, false, false, false, false] rfl rfl (any_of HT_.out (by kernel_rfl)) (fun _ _ _ h => h) (Or.inl ⟨by rfl, ?_⟩) ?_ ?_
      rotate_left
      · intro w'
        go_simp
        with_reducible rfl
      rotate_left
      · simp only [Act.put, List.setIfInBounds_toArray, List.set_cons_zero, List.set_cons_succ, i64_w, i32_w]
        rfl
      refine pure_ (i := 8) (N := some 25) (v := ?_) (a' := ?_) #[true, true, true, true, true, true, true, true, true, false, false, false, false, false, false, false] rfl rfl (any_of HT_.out (by kernel_rfl)) (fun _ _ _ h => h) (Or.inl ⟨by rfl, ?_⟩) ?_ ?_
      rotate_left
      · intro w'
        go_simp
        with_reducible rfl
      rotate_left
      · simp only [Act.put, List.setIfInBounds_toArray, List.set_cons_zero, List.set_cons_succ, i64_w, i32_w]
        rfl
      refine pure_ (i := 9) (N := some 26) (v := undef) (a' := ?_) #[true, true, true, true, true, true, true, true, true, true, false, false, false, false, false, false] rfl rfl (any_of HT_.out (by kernel_rfl)) (fun _ _ _ h => h) (Or.inr ⟨by rfl, rfl⟩) ?_ ?_
      rotate_left
      · simp only [Act.put, List.setIfInBounds_toArray, List.set_cons_zero, List.set_cons_succ, i64_w, i32_w]
        rfl
      refine pure_ (i := 10) (N := some 27) (v := undef) (a' := ?_) #[true, true, true, true, true, true, true, true, true, true, true, false, false, false, false, false] rfl rfl (any_of HT_.out (by kernel_rfl)) (fun _ _ _ h => h) (Or.inr ⟨by rfl, rfl⟩) ?_ ?_
      rotate_left
      · simp only [Act.put, List.setIfInBounds_toArray, List.set_cons_zero, List.set_cons_succ, i64_w, i32_w]
        rfl
      refine pure_ (i := 11) (N := some 28) (v := undef) (a' := ?_) #[true, true, true, true, true, true, true, true, true, true, true, true, false, false, false, false] rfl rfl (any_of HT_.out (by kernel_rfl)) (fun _ _ _ h => h) (Or.inr ⟨by rfl, rfl⟩) ?_ ?_
      rotate_left
      · simp only [Act.put, List.setIfInBounds_toArray, List.set_cons_zero, List.set_cons_succ, i64_w, i32_w]
        rfl
      refine pure_ (i := 12) (N := some 29) (v := undef) (a' := ?_) #[true, true, true, true, true, true, true, true, true, true, true, true, true, false, false, false] rfl rfl (any_of HT_.out (by kernel_rfl)) (fun _ _ _ h => h) (Or.inr ⟨by rfl, rfl⟩) ?_ ?_
      rotate_left
      · simp only [Act.put, List.setIfInBounds_toArray, List.set_cons_zero, List.set_cons_succ, i64_w, i32_w]
        rfl
      refine pure_ (i := 13) (N := some 30) (v := undef) (a' := ?_) #[true, true, true, true, true, true, true, true, true, true, true, true, true, true, false, false] rfl rfl (any_of HT_.out (by kernel_rfl)) (fun _ _ _ h => h) (Or.inr ⟨by rfl, rfl⟩) ?_ ?_
      rotate_left
      · simp only [Act.put, List.setIfInBounds_toArray, List.set_cons_zero, List.set_cons_succ, i64_w, i32_w]
        rfl
      refine pure_ (i := 14) (N := some 31) (v := ?_) (a' := ?_) #[true, true, true, true, true, true, true, true, true, true, true, true, true, true, true, false] rfl rfl (any_of HT_.out (by kernel_rfl)) (fun _ _ _ h => h) (Or.inl ⟨by rfl, ?_⟩) ?_ ?_
      rotate_left
      · intro w'
        go_simp
        with_reducible rfl
      rotate_left
      · simp only [Act.put, List.setIfInBounds_toArray, List.set_cons_zero, List.set_cons_succ, i64_w, i32_w]
        rfl
      refine pure_ (i := 15) (N := some 2) (v := ?_) (a' := ?_) #[true, true, true, true, true, true, true, true, true, true, true, true, true, true, true, true] rfl rfl (any_of HT_.out (by kernel_rfl)) (fun _ _ _ h => h) (Or.inl ⟨by rfl, ?_⟩) ?_ ?_
      rotate_left
      · intro w'
        go_simp
        with_reducible rfl
      rotate_left
      · simp only [Act.put, List.setIfInBounds_toArray, List.set_cons_zero, List.set_cons_succ, i64_w, i32_w]
        rfl
      refine done_ (done_of HT_.out (by kernel_rfl)) ?_
      try go_wp2
      go_ret
      exact ⟨by first | rfl | (simp [errW_none, errW_some] <;> rfl) | (simp [*, errW_none, errW_some] <;> rfl), by repeat (first | (with_reducible first | exact HB.out | apply bal | apply pbd | apply below_drew1 | refine below_set ?_ GE115.out) | exact HB.out)⟩
end Go.Proofs.Ytoeklekjhaigoaa.PTypesConds
end
section
namespace Go.Proofs.Ytoeklekjhaigoaa.StatTypesConds
open Go.Proofs.Ytoeklekjhaigoaa.Al Go.RowKit Go.Proofs.YtoeklekjhaigoaaW.PrintWords Go.Proofs.Ytoeklekjhaigoaa.Open Go.Proofs.Ytoeklekjhaigoaa.PTypesConds Go.Proofs.Ytoeklekjhaigoaa.Le Go.Proofs.Ytoeklekjhaigoaa.C1 Go.Proofs.Ytoeklekjhaigoaa.C2 Go.Proofs.Ytoeklekjhaigoaa.HAct Go.Proofs.Ytoeklekjhaigoaa.W0 Go.Proofs.Ytoeklekjhaigoaa.W1 Go.Proofs.Ytoeklekjhaigoaa.R01 Go.Proofs.Ytoeklekjhaigoaa.HPack Go.Proofs.Ytoeklekjhaigoaa.HUnpack Go.Proofs.Ytoeklekjhaigoaa.HRefPack Go.Proofs.Ytoeklekjhaigoaa.M0 Go.Proofs.Ytoeklekjhaigoaa.HMany Go.Proofs.Ytoeklekjhaigoaa.HCount Go.Proofs.Ytoeklekjhaigoaa.M1 Go.Proofs.Ytoeklekjhaigoaa.M2 Go.Proofs.Ytoeklekjhaigoaa.WCond Go.Proofs.Ytoeklekjhaigoaa.HAlive16
set_option maxRecDepth 100000
def Stat : Prop := ∀ (a0 : S46), Q46 a0 → ∃ k, doorwardlaw16_TypesConds.f k a0.f0 a0.f1 a0.f2 a0.f3 a0.f4 a0.f5 = some true
end Go.Proofs.Ytoeklekjhaigoaa.StatTypesConds
end
section
namespace Go.Proofs.Ytoeklekjhaigoaa.QHolds
open Go.Proofs.Ytoeklekjhaigoaa.Al Go.RowKit Go.Proofs.YtoeklekjhaigoaaW.PrintWords Go.Proofs.YtoeklekjhaigoaaW.PrintLast Go.Proofs.YtoeklekjhaigoaaW.PrintMore Go.Proofs.Ytoeklekjhaigoaa.M0 Go.Proofs.Ytoeklekjhaigoaa.M1 Go.Proofs.Ytoeklekjhaigoaa.M2 Go.Proofs.Ytoeklekjhaigoaa.HMany Go.Proofs.Ytoeklekjhaigoaa.HCount Go.Proofs.Ytoeklekjhaigoaa.QCond Go.Proofs.Ytoeklekjhaigoaa.QMean Go.Proofs.Ytoeklekjhaigoaa.QOne
set_option linter.unusedVariables false
set_option linter.unusedSimpArgs false
theorem eta46 (c : S46) : (⟨c.f0, c.f1, c.f2, c.f3, c.f4, c.f5⟩ : S46) = c := by cases c; rfl
theorem many_f (c : S46) (L : Int) (h1 : 1 ≤ L) (h2 : L ≤ 1000) : doorwardref15_Many.f c.f0 c.f1 c.f2 c.f3 c.f4 c.f5 L = some ((min (nodes c) (L.toNat + 1) : Nat) : Int) := by
  unfold doorwardref15_Many.f
  rw [if_pos ⟨h1, h2⟩, eta46]
theorem right_f (c : S46) (k : Nat) (hk : 400 ≤ k) : doorwardref16_Right.f k c.f0 c.f1 c.f2 c.f3 c.f4 c.f5 = some (rightB c) := by
  unfold doorwardref16_Right.f
  rw [many_f c 100 (by omega) (by omega), Option.bind_some]
  unfold rightB
  by_cases h : nodes c ≤ 100
  · rw [if_pos (by simp only [Int.reduceToNat]; omega), fits_f 100 (by omega) c h k (by omega), Option.bind_some, decide_eq_true h, Bool.and_true]
  · rw [if_neg (by simp only [Int.reduceToNat]; omega), decide_eq_false h, Bool.and_false]
theorem typesRight_f (c : S46) : types_Right.f c.f0 c.f1 c.f2 c.f3 c.f4 c.f5 = some (rightB c) := by
  unfold types_Right.f types_count.f
  rw [Option.bind_some, eta46]
  show some (countR c).2 = _
  unfold countR
  cases rightB c <;> rfl
theorem typesTests_f (c : S46) : types_Tests.f c.f0 c.f1 c.f2 c.f3 c.f4 c.f5 = some (if rightB c = true then (testsN c : Int) else 0) := by
  unfold types_Tests.f types_count.f
  rw [Option.bind_some, eta46]
  show some (countR c).1 = _
  unfold countR
  cases rightB c <;> rfl
theorem refTests_f (c : S46) (k : Nat) (hk : 400 ≤ k) : doorwardref16_Tests.f k c.f0 c.f1 c.f2 c.f3 c.f4 c.f5 = some (if rightB c = true then (testsN c : Int) else 0) := by
  unfold doorwardref16_Tests.f
  rw [right_f c k hk, Option.bind_some]
  by_cases h : rightB c = true
  · have ⟨hf, hn⟩ := right_fits h
    rw [if_pos h, if_pos h, tests_f 100 (by omega) c hn hf k (by omega), Option.bind_some]
  · rw [if_neg h, if_neg h]
theorem count_none {α : Type} (p : α → Bool) (l : List α) : (((l.countP p : Nat) : Int) == 0) = !l.any p := by
  rw [Bool.eq_iff_iff, beq_iff_eq, Bool.not_eq_true', List.any_eq_false]
  have := List.countP_eq_zero (p := p) (l := l)
  constructor
  · intro h a ha
    simpa using this.1 (by omega) a ha
  · intro h
    have := this.2 (fun a ha => by simpa using h a ha)
    omega
theorem count_some {α : Type} (p : α → Bool) (l : List α) : decide (((l.countP p : Nat) : Int) > 0) = l.any p := by
  have h := count_none p l
  cases ha : l.any p with
  | true => rw [ha] at h; rw [decide_eq_true_eq]; have : ¬ ((l.countP p : Nat) : Int) = 0 := by simpa using h
            omega
  | false => rw [ha] at h; rw [decide_eq_false_iff_not]; have : ((l.countP p : Nat) : Int) = 0 := by simpa using h
             omega
end Go.Proofs.Ytoeklekjhaigoaa.QHolds
end
section
namespace Go.Proofs.Ytoeklekjhaigoaa.Pure
open Go.Proofs.Ytoeklekjhaigoaa.Al Go.RowKit Go.Proofs.Ytoeklekjhaigoaa.StatTypesConds Go.Proofs.YtoeklekjhaigoaaW.PrintWords Go.Proofs.YtoeklekjhaigoaaW.PrintLast Go.Proofs.YtoeklekjhaigoaaW.PrintMore Go.Proofs.Ytoeklekjhaigoaa.PTypesConds Go.Proofs.Ytoeklekjhaigoaa.Le Go.Proofs.Ytoeklekjhaigoaa.C1 Go.Proofs.Ytoeklekjhaigoaa.C2 Go.Proofs.Ytoeklekjhaigoaa.HAct Go.Proofs.Ytoeklekjhaigoaa.W0 Go.Proofs.Ytoeklekjhaigoaa.W1 Go.Proofs.Ytoeklekjhaigoaa.R01 Go.Proofs.Ytoeklekjhaigoaa.HPack Go.Proofs.Ytoeklekjhaigoaa.HUnpack Go.Proofs.Ytoeklekjhaigoaa.HRefPack Go.Proofs.Ytoeklekjhaigoaa.M0 Go.Proofs.Ytoeklekjhaigoaa.HMany Go.Proofs.Ytoeklekjhaigoaa.HCount Go.Proofs.Ytoeklekjhaigoaa.M1 Go.Proofs.Ytoeklekjhaigoaa.M2 Go.Proofs.Ytoeklekjhaigoaa.WCond Go.Proofs.Ytoeklekjhaigoaa.HAlive16 Go.Proofs.Ytoeklekjhaigoaa.QCond Go.Proofs.Ytoeklekjhaigoaa.QMean Go.Proofs.Ytoeklekjhaigoaa.QOne Go.Proofs.Ytoeklekjhaigoaa.QHolds
set_option linter.unusedVariables false
theorem TypesConds : StatTypesConds.Stat := by
  intro c hc
  refine ⟨4000, ?_⟩
  unfold doorwardlaw16_TypesConds.f doorwardlaw16_alive.f
  rw [many_f c 200 (by omega) (by omega), typesRight_f, right_f c 4000 (by omega), typesTests_f, refTests_f c 4000 (by omega)]
  simp only [Option.bind_some, if_true]
  by_cases h : nodes c ≤ 200
  · rw [if_neg (by simp only [Int.reduceToNat]; omega)]
    simp
  · rw [if_pos (by simp only [Int.reduceToNat]; omega)]
    have hr : rightB c = false := by unfold rightB; rw [decide_eq_false (by omega), Bool.and_false]
    rw [hr]
    simp
end Go.Proofs.Ytoeklekjhaigoaa.Pure
end
section
namespace Go.Proofs.Ytoeklekjhaigoaa.typesConds
open Go.ChangeShapes Go.WideShapes Go.ChangeAt Go.RowKit Go.Proofs.Ytoeklekjhaigoaa.Open Go.Proofs.Ytoeklekjhaigoaa.StatTypesConds Go.Proofs.YtoeklekjhaigoaaW.PrintWords Go.Proofs.Ytoeklekjhaigoaa.PTypesConds Go.Proofs.Ytoeklekjhaigoaa.Le Go.Proofs.Ytoeklekjhaigoaa.C1 Go.Proofs.Ytoeklekjhaigoaa.C2 Go.Proofs.Ytoeklekjhaigoaa.HAct Go.Proofs.Ytoeklekjhaigoaa.W0 Go.Proofs.Ytoeklekjhaigoaa.W1 Go.Proofs.Ytoeklekjhaigoaa.R01 Go.Proofs.Ytoeklekjhaigoaa.HPack Go.Proofs.Ytoeklekjhaigoaa.HUnpack Go.Proofs.Ytoeklekjhaigoaa.HRefPack Go.Proofs.Ytoeklekjhaigoaa.M0 Go.Proofs.Ytoeklekjhaigoaa.HMany Go.Proofs.Ytoeklekjhaigoaa.HCount Go.Proofs.Ytoeklekjhaigoaa.M1 Go.Proofs.Ytoeklekjhaigoaa.M2 Go.Proofs.Ytoeklekjhaigoaa.WCond Go.Proofs.Ytoeklekjhaigoaa.HAlive16
open Go.ChangeMaps (open_string shut_string)
set_option linter.unusedVariables false
open Go.Proofs.Ytoeklekjhaigoaa.Order (own laidOut)
open Go.Proofs.Ytoeklekjhaigoaa
set_option maxRecDepth 100000 in
set_option maxHeartbeats 1000000 in
theorem lifted (os : Os) (started : os.Started) (H : Type) (enc : TypeId × Value → H) :
    ReturnsInHanded {} Try.checked os 20 .any (Rows.typesCondsSpec.pre6 enc Try.prog Try.f20 Rows.typesCondsRow.domain false) (Rows.typesCondsSpec.post enc Try.prog Try.f20 false true false false) := by
  refine returnsInHanded_of_change_sized (C := Try.checked) own started (by kernel_rfl) Try.func20
    (ChangeSpec.witness6 (enc := enc) (C := Try.checked) false ⟨#[], #[.agg #[(.int .i64 0), (.slice none 0 0), (.int .i64 0), (.int .u64 0), (.string ByteArray.empty), (.int .u64 0)]], []⟩ 20 (by kernel_rfl) (by kernel_rfl) (by kernel_rfl) (by kernel_rfl)) ?_
  intro W base args ds gs before hval0 hW hcnd hsz0 _
  have hsz : (DataW.weightsEach Try.prog (Try.f20.params.toList ++ Rows.typesCondsSpec.plain.varTypes Try.prog) (ds ++ gs)).all (· ≤ reachBytes) = true := hsz0
  have hval : ∀ (j : Nat) t v, Try.f20.params[j]? = some t → args[j]? = some v → Value.okWide Try.prog W .any base t v := hval0
  have hW' := hW
  obtain ⟨p, q, hA0, hV, rfl, hfz, hnd⟩ := hW
  have hA : DataW.TrodAll enc Try.prog W 0 (fun _ => true) true Try.f20.params.toList args.toList ds p := hA0
  rw [Try.params20] at hA hval hsz
  obtain ⟨v0, vs0, d0, ds0, p0, q0, hargs, rfl, rfl, h0, r0⟩ := trodAll_cons hA
  obtain ⟨rfl, rfl, rfl⟩ := trodAll_nil r0
  obtain rfl : args = #[v0] := by cases args; simp_all
  obtain ⟨rfl, rfl⟩ := trodVars_none hV
  have k0_ := h0
  have lt0 : ∀ x ∈ p0, x.block < W.heap.size := by obtain ⟨m, hm⟩ := k0_; exact DataW.trod_lt m _ _ _ hm
  obtain ⟨cs0, x0, rfl, hx0, hq0⟩ := agg_of Try.underlying46 (hval 0 46 v0 rfl rfl) opens46 h0
  obtain ⟨A0_1, c0_1, ho0, hl0_1, hg0_1⟩ := k46_open hx0
  obtain rfl : cs0 = #[.int .i64 x0.f0, .slice A0_1 x0.f1.length c0_1, .int .i64 x0.f2, .int .u64 x0.f3, .string x0.f4, .int .u64 x0.f5] := Array.ext' ho0
  clear hA0 hval0 hsz0 hsz
  obtain ⟨k, hk⟩ := Pure.TypesConds x0 hq0
  refine (doorwardlaw16_TypesConds.calls (k := k) (hr0_1 := hg0_1) (hc0_1 := hl0_1) (r := true) (w := W) (h := hk)).mono ?_
  rintro e W' ⟨rfl, bel0⟩
  have bel := bel0
  exact ⟨_, rfl, _, _, _, [], _, [], hW', trodAll_mk1 (shut_bool Try.underlying4 _), (trodAll_cons_mk (Below.trod laidOut (by kernel_rfl) (of_decide_eq_true (by kernel_rfl)) k0_ bel lt0) trodAll_mk0), rfl, bel.frame _, fun h => by cases h⟩
set_option maxHeartbeats 4000000 in
theorem facts : joinedFacts Try.prog 20 Try.f20 Rows.typesCondsSpec Rows.typesCondsRow = true := by
  unfold joinedFacts
  repeat' (with_reducible refine (Bool.and_eq_true_iff).mpr ⟨?_, ?_⟩)
  all_goals first | (with_reducible exact Order.laidOut) | (with_reducible exact Order.mapsRowed) | (with_reducible exact Order.noStops) | (with_reducible exact Order.noKnobs) | (with_reducible exact Order.enter) | (with_reducible exact Order.heard) | (rw [Order.makes]; rfl) | (rw [Order.lifts]; rfl) | (as_aux_lemma => kernel_rfl)
theorem named : Try.prog.funcNamed "doorward/doorwardlaw16.TypesConds" = some 20 := by kernel_rfl
theorem inst : Try.f20.isInstance Try.prog Rows.typesCondsRow.origin Rows.typesCondsRow.targs := of_decide_eq_true (by kernel_rfl)
theorem wrap : Try.f20.isWrapper Try.prog Rows.typesCondsRow.wrapper Rows.typesCondsRow.mainSum := by unfold Func.isWrapper; first | (rw [if_pos (by decide +kernel)]; kernel_rfl) | (rw [if_neg (by decide +kernel)]; exact ⟨rfl, rfl⟩)
theorem over : Rows.typesCondsRow.holds Try.pinned (OpenSpec.ofChange Rows.typesCondsSpec) :=
  OpenClaim.holds_of_wide 20 Try.f20 rfl rfl rfl rfl rfl rfl rfl ⟨rfl, rfl, rfl, rfl, rfl⟩ rfl rfl rfl rfl rfl named Try.func20 facts inst wrap
    (fun os started H enc _ => lifted os started H enc)
theorem proved : Rows.TypesCondsSaid := over
#print axioms proved
end Go.Proofs.Ytoeklekjhaigoaa.typesConds
namespace Go.Proofs.Ytoeklekjhaigoaa
/-- The row, under a short name, for the claim. -/
theorem typesConds_holds : Rows.TypesCondsSaid := typesConds.proved
end Go.Proofs.Ytoeklekjhaigoaa
end
