/- VmRuns: what any filter returns of any record, in how many steps, or that it goes wrong, is as the document says. -/
import Derived.Test.YtefkhcijgiagdaaZVmRuns2
import Derived.Test.YtefkhcijgiagdaaZVmRuns3
import Derived.Test.YtefkhcijgiagdaaZVmRuns4
import Derived.Test.YtefkhcijgiagdaaZVmRuns5
import Derived.Test.YtefkhcijgiagdaaZVmRuns6
section
namespace Go.Proofs.Ytefkhcijgiagdaa.HMr
open Go.RowKit Go.Proofs.YtefkhcijgiagdaaW.PrintWords Go.Proofs.YtefkhcijgiagdaaW.PrintLast Go.Proofs.YtefkhcijgiagdaaW.PrintMore Go.Proofs.Ytefkhcijgiagdaa.HKnown Go.Proofs.Ytefkhcijgiagdaa.I1 Go.Proofs.Ytefkhcijgiagdaa.QVm Go.Proofs.Ytefkhcijgiagdaa.QLe Go.Proofs.Ytefkhcijgiagdaa.V0 Go.Proofs.Ytefkhcijgiagdaa.HVm Go.Proofs.Ytefkhcijgiagdaa.QIn
set_option linter.unusedVariables false
set_option linter.unusedSimpArgs false
set_option maxRecDepth 100000
theorem step_codes : ∀ c : Fin 256, knownB (c.val : Int) = true → (c.val : Int) = 6 ∨ (c.val : Int) = 22 ∨ (c.val : Int) = 4 ∨ (c.val : Int) = 12 ∨ (c.val : Int) = 20 ∨ (c.val : Int) = 28 ∨ (c.val : Int) = 36 ∨ (c.val : Int) = 44 ∨ (c.val : Int) = 68 ∨ (c.val : Int) = 76 ∨ (c.val : Int) = 84 ∨ (c.val : Int) = 92 ∨ (c.val : Int) = 100 ∨ (c.val : Int) = 108 ∨ (c.val : Int) = 116 ∨ (c.val : Int) = 124 ∨ (c.val : Int) = 132 ∨ (c.val : Int) = 164 ∨ (c.val : Int) = 172 ∨ (c.val : Int) = 52 ∨ (c.val : Int) = 60 ∨ (c.val : Int) = 5 ∨ (c.val : Int) = 21 ∨ (c.val : Int) = 29 ∨ (c.val : Int) = 37 ∨ (c.val : Int) = 45 ∨ (c.val : Int) = 53 ∨ (c.val : Int) = 61 ∨ (c.val : Int) = 69 ∨ (c.val : Int) = 77 ∨ (c.val : Int) = 32 ∨ (c.val : Int) = 128 ∨ (c.val : Int) = 129 ∨ (c.val : Int) = 0 ∨ (c.val : Int) = 1 ∨ (c.val : Int) = 7 ∨ (c.val : Int) = 135 ∨ (c.val : Int) = 2 ∨ (c.val : Int) = 3 ∨ (c.val : Int) = 96 ∨ (c.val : Int) = 97 := by decide +kernel
theorem two_shl (a n : Int) (ha : U a) (hn : U n) : doorwardref11_two.f 6 a n = some (a * 2 ^ (n % 32).toNat % 4294967296) := by
  have h0 : 0 ≤ n % 32 ∧ n % 32 < 32 := ⟨Int.emod_nonneg _ (by decide), Int.emod_lt_of_pos _ (by decide)⟩
  have e1 : Int.tmod n 32 = n % 32 := Int.tmod_eq_emod_of_nonneg hn.1
  have e2 : IntKind.u64.wrap (n % 32) = n % 32 := by rw [IntKind.wrap_u64]; omega
  have e3 : IntKind.u64.wrap a = a := by rw [IntKind.wrap_u64]; exact Int.emod_eq_of_lt ha.1 (Int.lt_trans ha.2 (by decide))
  have h1 : doorwardref11_two.f 6 a n = (if 0 ≤ (IntKind.u64.wrap (Int.tmod n 32)) then (some ((Int.tmod (shl .u64 (IntKind.u64.wrap (a)) (IntKind.u64.wrap (Int.tmod n 32))) 4294967296) % 4294967296)) else (none)) := rfl
  rw [h1, e1, e2, e3, if_pos h0.1]
  congr 1
  unfold shl
  rw [Nat.min_eq_left (by show (n % 32).toNat ≤ 64; omega), IntKind.wrap_u64, Int.tmod_eq_emod_of_nonneg (Int.emod_nonneg _ (by decide))]
  generalize a * 2 ^ (n % 32).toNat = q
  omega
theorem two_shr (a n : Int) (ha : U a) (hn : U n) : doorwardref11_two.f 7 a n = some (a / 2 ^ (n % 32).toNat) := by
  have h0 : 0 ≤ n % 32 ∧ n % 32 < 32 := ⟨Int.emod_nonneg _ (by decide), Int.emod_lt_of_pos _ (by decide)⟩
  have e1 : Int.tmod n 32 = n % 32 := Int.tmod_eq_emod_of_nonneg hn.1
  have e2 : IntKind.u64.wrap (n % 32) = n % 32 := by rw [IntKind.wrap_u64]; omega
  have h1 : doorwardref11_two.f 7 a n = (if 0 ≤ (IntKind.u64.wrap (Int.tmod n 32)) then (some (shr .u32 a (IntKind.u64.wrap (Int.tmod n 32)))) else (none)) := rfl
  rw [h1, e1, e2, if_pos h0.1]
  congr 1
  unfold shr
  rw [Nat.min_eq_left (by show (n % 32).toNat ≤ 32; omega)]
theorem step_r {w : World} {rec : ByteArray} {v : V} {l : List S28} {A0 : Option Addr} {c0 : Nat} (hl : v.cs.length = 16) (z : Int) (hC : Kd.C k28 w A0 l.length l) (i : S28) (hi : rd_T28 l z = i) (hz0 : 0 ≤ z) (hz1 : z < (l.length : Int)) (hz2 : z < 1000000) (hv : VR v) (hk : U i.f3) (wd : Int → Option Int) (x b : Int)
    (hcall : ∀ W, Calls Try.prog 83 #[.string rec, .int .i64 i.f3] W fun e w' => e = .returned (.tuple #[.int .u32 x, .int .i64 b]) ∧ Drawn0 W w') (hxb : (wd i.f3 = some x ∧ b = 0) ∨ (wd i.f3 = none ∧ b = 51)) :
    Calls Try.prog 121 #[.agg (mL v z 0 false false).toArray, .slice A0 l.length c0, .string rec] w (StPost w z (vm1 wd i v)) := by
  by_cases hkn : knownB i.f0 = false
  · rw [vm1_bad wd i v hkn]
    exact st_unk hl z hC hz0 hz1 hz2 i hi hkn
  replace hkn : knownB i.f0 = true := by cases h : knownB i.f0 with | true => rfl | false => exact absurd h hkn
  have hr : 0 ≤ i.f0 ∧ i.f0 < 256 := by unfold knownB at hkn; rw [Bool.and_eq_true, decide_eq_true_eq] at hkn; exact hkn.1
  obtain ⟨c, a1, a2, a3⟩ := i
  simp only at hkn hr hk hcall hxb
  have hcs := step_codes ⟨c.toNat, by omega⟩ (by show knownB ((c.toNat : Nat) : Int) = true; rw [Int.toNat_of_nonneg hr.1]; exact hkn)
  rw [show (((⟨c.toNat, by omega⟩ : Fin 256).val : Nat) : Int) = c from Int.toNat_of_nonneg hr.1] at hcs
  have hn1 := hv.x
  have ha1 := hv.a
  rcases hcs with rfl | rfl | rfl | rfl | rfl | rfl | rfl | rfl | rfl | rfl | rfl | rfl | rfl | rfl | rfl | rfl | rfl | rfl | rfl | rfl | rfl | rfl | rfl | rfl | rfl | rfl | rfl | rfl | rfl | rfl | rfl | rfl | rfl | rfl | rfl | rfl | rfl | rfl | rfl | rfl | rfl
  · exact st_retk hl z hC hz0 hz1 hz2 a1 a2 a3 hk hi
  · exact st_reta hl z hC hz0 hz1 hz2 a1 a2 a3 hk hi
  · exact st_two4 hl z hC hz0 hz1 hz2 a1 a2 a3 hk hi _ rfl
  · exact st_two12 hl z hC hz0 hz1 hz2 a1 a2 a3 hk hi _ rfl
  · exact st_two20 hl z hC hz0 hz1 hz2 a1 a2 a3 hk hi _ rfl
  · exact st_two28 hl z hC hz0 hz1 hz2 a1 a2 a3 hk hi _ rfl
  · exact st_two36 hl z hC hz0 hz1 hz2 a1 a2 a3 hk hi _ rfl
  · exact st_two44 hl z hC hz0 hz1 hz2 a1 a2 a3 hk hi _ rfl
  · exact st_two68 hl z hC hz0 hz1 hz2 a1 a2 a3 hk hi _ rfl
  · exact st_two76 hl z hC hz0 hz1 hz2 a1 a2 a3 hk hi _ rfl
  · exact st_two84 hl z hC hz0 hz1 hz2 a1 a2 a3 hk hi _ rfl
  · exact st_two92 hl z hC hz0 hz1 hz2 a1 a2 a3 hk hi _ rfl
  · exact st_two100 hl z hC hz0 hz1 hz2 a1 a2 a3 hk hi _ (two_shl v.a a3 ha1 hk)
  · exact st_two108 hl z hC hz0 hz1 hz2 a1 a2 a3 hk hi _ (two_shl v.a v.x ha1 hn1)
  · exact st_two116 hl z hC hz0 hz1 hz2 a1 a2 a3 hk hi _ (two_shr v.a a3 ha1 hk)
  · exact st_two124 hl z hC hz0 hz1 hz2 a1 a2 a3 hk hi _ (two_shr v.a v.x ha1 hn1)
  · exact st_two132 hl z hC hz0 hz1 hz2 a1 a2 a3 hk hi _ rfl
  · exact st_two164 hl z hC hz0 hz1 hz2 a1 a2 a3 hk hi _ rfl
  · exact st_two172 hl z hC hz0 hz1 hz2 a1 a2 a3 hk hi _ rfl
  · by_cases h0 : a3 = 0
    · rw [show vm1 wd ⟨52, a1, a2, a3⟩ v = .done 0 from by show (match (if a3 = 0 then none else some ((v.a / a3) % 4294967296) : Option Int) with | none => R1.done 0 | some a => .next ⟨a, v.x, v.cs⟩ 0) = _; rw [if_pos h0]]
      exact st_div0_52 hl z hC hz0 hz1 hz2 a1 a2 a3 hk hi h0
    · rw [show vm1 wd ⟨52, a1, a2, a3⟩ v = .next ⟨(v.a / a3) % 4294967296, v.x, v.cs⟩ 0 from by show (match (if a3 = 0 then none else some ((v.a / a3) % 4294967296) : Option Int) with | none => R1.done 0 | some a => .next ⟨a, v.x, v.cs⟩ 0) = _; rw [if_neg h0]]
      exact st_div52 hl z hC hz0 hz1 hz2 a1 a2 a3 hk hi h0 hk ha1
  · by_cases h0 : v.x = 0
    · rw [show vm1 wd ⟨60, a1, a2, a3⟩ v = .done 0 from by show (match (if v.x = 0 then none else some ((v.a / v.x) % 4294967296) : Option Int) with | none => R1.done 0 | some a => .next ⟨a, v.x, v.cs⟩ 0) = _; rw [if_pos h0]]
      exact st_div0_60 hl z hC hz0 hz1 hz2 a1 a2 a3 hk hi h0
    · rw [show vm1 wd ⟨60, a1, a2, a3⟩ v = .next ⟨(v.a / v.x) % 4294967296, v.x, v.cs⟩ 0 from by show (match (if v.x = 0 then none else some ((v.a / v.x) % 4294967296) : Option Int) with | none => R1.done 0 | some a => .next ⟨a, v.x, v.cs⟩ 0) = _; rw [if_neg h0]]
      exact st_div60 hl z hC hz0 hz1 hz2 a1 a2 a3 hk hi h0 hn1 ha1
  · exact st_ja hl z hC hz0 hz1 hz2 a1 a2 a3 hk hi
  · have eh : doorwardref11_holds.f 1 v.a a3 = some (v.a == a3) := rfl
    have ev : vm1 wd ⟨21, a1, a2, a3⟩ v = .next v (if (decide (v.a = a3)) = true then (if a1 < 0 then 0 else a1) else (if a2 < 0 then 0 else a2)).toNat := rfl
    rw [show (v.a == a3) = decide (v.a = a3) from by rw [Bool.eq_iff_iff, beq_iff_eq, decide_eq_true_eq]] at eh
    rw [ev]
    cases ht : (decide (v.a = a3)) with
    | true =>
      rw [ht] at eh
      rw [if_pos rfl]
      exact st_jmp21y hl z hC hz0 hz1 hz2 a1 a2 a3 hk hi eh _ rfl (by split <;> omega)
    | false =>
      rw [ht] at eh
      rw [if_neg (by decide)]
      exact st_jmp21n hl z hC hz0 hz1 hz2 a1 a2 a3 hk hi eh _ rfl (by split <;> omega)
  · have eh : doorwardref11_holds.f 1 v.a v.x = some (v.a == v.x) := rfl
    have ev : vm1 wd ⟨29, a1, a2, a3⟩ v = .next v (if (decide (v.a = v.x)) = true then (if a1 < 0 then 0 else a1) else (if a2 < 0 then 0 else a2)).toNat := rfl
    rw [show (v.a == v.x) = decide (v.a = v.x) from by rw [Bool.eq_iff_iff, beq_iff_eq, decide_eq_true_eq]] at eh
    rw [ev]
    cases ht : (decide (v.a = v.x)) with
    | true =>
      rw [ht] at eh
      rw [if_pos rfl]
      exact st_jmp29y hl z hC hz0 hz1 hz2 a1 a2 a3 hk hi eh _ rfl (by split <;> omega)
    | false =>
      rw [ht] at eh
      rw [if_neg (by decide)]
      exact st_jmp29n hl z hC hz0 hz1 hz2 a1 a2 a3 hk hi eh _ rfl (by split <;> omega)
  · have eh : doorwardref11_holds.f 2 v.a a3 = some (decide (v.a > a3)) := rfl
    have ev : vm1 wd ⟨37, a1, a2, a3⟩ v = .next v (if (decide (v.a > a3)) = true then (if a1 < 0 then 0 else a1) else (if a2 < 0 then 0 else a2)).toNat := rfl
    rw [show (decide (v.a > a3)) = decide (v.a > a3) from rfl] at eh
    rw [ev]
    cases ht : (decide (v.a > a3)) with
    | true =>
      rw [ht] at eh
      rw [if_pos rfl]
      exact st_jmp37y hl z hC hz0 hz1 hz2 a1 a2 a3 hk hi eh _ rfl (by split <;> omega)
    | false =>
      rw [ht] at eh
      rw [if_neg (by decide)]
      exact st_jmp37n hl z hC hz0 hz1 hz2 a1 a2 a3 hk hi eh _ rfl (by split <;> omega)
  · have eh : doorwardref11_holds.f 2 v.a v.x = some (decide (v.a > v.x)) := rfl
    have ev : vm1 wd ⟨45, a1, a2, a3⟩ v = .next v (if (decide (v.a > v.x)) = true then (if a1 < 0 then 0 else a1) else (if a2 < 0 then 0 else a2)).toNat := rfl
    rw [show (decide (v.a > v.x)) = decide (v.a > v.x) from rfl] at eh
    rw [ev]
    cases ht : (decide (v.a > v.x)) with
    | true =>
      rw [ht] at eh
      rw [if_pos rfl]
      exact st_jmp45y hl z hC hz0 hz1 hz2 a1 a2 a3 hk hi eh _ rfl (by split <;> omega)
    | false =>
      rw [ht] at eh
      rw [if_neg (by decide)]
      exact st_jmp45n hl z hC hz0 hz1 hz2 a1 a2 a3 hk hi eh _ rfl (by split <;> omega)
  · have eh : doorwardref11_holds.f 3 v.a a3 = some (decide (v.a ≥ a3)) := rfl
    have ev : vm1 wd ⟨53, a1, a2, a3⟩ v = .next v (if (decide (v.a ≥ a3)) = true then (if a1 < 0 then 0 else a1) else (if a2 < 0 then 0 else a2)).toNat := rfl
    rw [show (decide (v.a ≥ a3)) = decide (v.a ≥ a3) from rfl] at eh
    rw [ev]
    cases ht : (decide (v.a ≥ a3)) with
    | true =>
      rw [ht] at eh
      rw [if_pos rfl]
      exact st_jmp53y hl z hC hz0 hz1 hz2 a1 a2 a3 hk hi eh _ rfl (by split <;> omega)
    | false =>
      rw [ht] at eh
      rw [if_neg (by decide)]
      exact st_jmp53n hl z hC hz0 hz1 hz2 a1 a2 a3 hk hi eh _ rfl (by split <;> omega)
  · have eh : doorwardref11_holds.f 3 v.a v.x = some (decide (v.a ≥ v.x)) := rfl
    have ev : vm1 wd ⟨61, a1, a2, a3⟩ v = .next v (if (decide (v.a ≥ v.x)) = true then (if a1 < 0 then 0 else a1) else (if a2 < 0 then 0 else a2)).toNat := rfl
    rw [show (decide (v.a ≥ v.x)) = decide (v.a ≥ v.x) from rfl] at eh
    rw [ev]
    cases ht : (decide (v.a ≥ v.x)) with
    | true =>
      rw [ht] at eh
      rw [if_pos rfl]
      exact st_jmp61y hl z hC hz0 hz1 hz2 a1 a2 a3 hk hi eh _ rfl (by split <;> omega)
    | false =>
      rw [ht] at eh
      rw [if_neg (by decide)]
      exact st_jmp61n hl z hC hz0 hz1 hz2 a1 a2 a3 hk hi eh _ rfl (by split <;> omega)
  · have eh : doorwardref11_holds.f 4 v.a a3 = some (decide (Go.bits .and .u32 v.a a3 > 0)) := rfl
    have ev : vm1 wd ⟨69, a1, a2, a3⟩ v = .next v (if (decide (Go.bits .and .u32 v.a a3 ≠ 0)) = true then (if a1 < 0 then 0 else a1) else (if a2 < 0 then 0 else a2)).toNat := rfl
    rw [show (decide (Go.bits .and .u32 v.a a3 > 0)) = decide (Go.bits .and .u32 v.a a3 ≠ 0) from by have := (bits_u .and v.a a3).1; rw [Bool.eq_iff_iff, decide_eq_true_eq, decide_eq_true_eq]; omega] at eh
    rw [ev]
    cases ht : (decide (Go.bits .and .u32 v.a a3 ≠ 0)) with
    | true =>
      rw [ht] at eh
      rw [if_pos rfl]
      exact st_jmp69y hl z hC hz0 hz1 hz2 a1 a2 a3 hk hi eh _ rfl (by split <;> omega)
    | false =>
      rw [ht] at eh
      rw [if_neg (by decide)]
      exact st_jmp69n hl z hC hz0 hz1 hz2 a1 a2 a3 hk hi eh _ rfl (by split <;> omega)
  · have eh : doorwardref11_holds.f 4 v.a v.x = some (decide (Go.bits .and .u32 v.a v.x > 0)) := rfl
    have ev : vm1 wd ⟨77, a1, a2, a3⟩ v = .next v (if (decide (Go.bits .and .u32 v.a v.x ≠ 0)) = true then (if a1 < 0 then 0 else a1) else (if a2 < 0 then 0 else a2)).toNat := rfl
    rw [show (decide (Go.bits .and .u32 v.a v.x > 0)) = decide (Go.bits .and .u32 v.a v.x ≠ 0) from by have := (bits_u .and v.a v.x).1; rw [Bool.eq_iff_iff, decide_eq_true_eq, decide_eq_true_eq]; omega] at eh
    rw [ev]
    cases ht : (decide (Go.bits .and .u32 v.a v.x ≠ 0)) with
    | true =>
      rw [ht] at eh
      rw [if_pos rfl]
      exact st_jmp77y hl z hC hz0 hz1 hz2 a1 a2 a3 hk hi eh _ rfl (by split <;> omega)
    | false =>
      rw [ht] at eh
      rw [if_neg (by decide)]
      exact st_jmp77n hl z hC hz0 hz1 hz2 a1 a2 a3 hk hi eh _ rfl (by split <;> omega)
  · exact st_mov32 hl z hC hz0 hz1 hz2 a1 a2 a3 hk hi _ (fun W => moves_c hl (z + 1) ⟨32, a1, a2, a3⟩ wd hk x b hcall hxb (by show (32 : Int) = 32 ∨ (32 : Int) = 128 ∨ (32 : Int) = 129 ∨ (32 : Int) = 0 ∨ (32 : Int) = 1 ∨ (32 : Int) = 7 ∨ (32 : Int) = 135 ∨ (32 : Int) = 2 ∨ (32 : Int) = 3 ∨ (32 : Int) = 96 ∨ (32 : Int) = 97; decide))
  · exact st_mov128 hl z hC hz0 hz1 hz2 a1 a2 a3 hk hi _ (fun W => moves_c hl (z + 1) ⟨128, a1, a2, a3⟩ wd hk x b hcall hxb (by show (128 : Int) = 32 ∨ (128 : Int) = 128 ∨ (128 : Int) = 129 ∨ (128 : Int) = 0 ∨ (128 : Int) = 1 ∨ (128 : Int) = 7 ∨ (128 : Int) = 135 ∨ (128 : Int) = 2 ∨ (128 : Int) = 3 ∨ (128 : Int) = 96 ∨ (128 : Int) = 97; decide))
  · exact st_mov129 hl z hC hz0 hz1 hz2 a1 a2 a3 hk hi _ (fun W => moves_c hl (z + 1) ⟨129, a1, a2, a3⟩ wd hk x b hcall hxb (by show (129 : Int) = 32 ∨ (129 : Int) = 128 ∨ (129 : Int) = 129 ∨ (129 : Int) = 0 ∨ (129 : Int) = 1 ∨ (129 : Int) = 7 ∨ (129 : Int) = 135 ∨ (129 : Int) = 2 ∨ (129 : Int) = 3 ∨ (129 : Int) = 96 ∨ (129 : Int) = 97; decide))
  · exact st_mov0 hl z hC hz0 hz1 hz2 a1 a2 a3 hk hi _ (fun W => moves_c hl (z + 1) ⟨0, a1, a2, a3⟩ wd hk x b hcall hxb (by show (0 : Int) = 32 ∨ (0 : Int) = 128 ∨ (0 : Int) = 129 ∨ (0 : Int) = 0 ∨ (0 : Int) = 1 ∨ (0 : Int) = 7 ∨ (0 : Int) = 135 ∨ (0 : Int) = 2 ∨ (0 : Int) = 3 ∨ (0 : Int) = 96 ∨ (0 : Int) = 97; decide))
  · exact st_mov1 hl z hC hz0 hz1 hz2 a1 a2 a3 hk hi _ (fun W => moves_c hl (z + 1) ⟨1, a1, a2, a3⟩ wd hk x b hcall hxb (by show (1 : Int) = 32 ∨ (1 : Int) = 128 ∨ (1 : Int) = 129 ∨ (1 : Int) = 0 ∨ (1 : Int) = 1 ∨ (1 : Int) = 7 ∨ (1 : Int) = 135 ∨ (1 : Int) = 2 ∨ (1 : Int) = 3 ∨ (1 : Int) = 96 ∨ (1 : Int) = 97; decide))
  · exact st_mov7 hl z hC hz0 hz1 hz2 a1 a2 a3 hk hi _ (fun W => moves_c hl (z + 1) ⟨7, a1, a2, a3⟩ wd hk x b hcall hxb (by show (7 : Int) = 32 ∨ (7 : Int) = 128 ∨ (7 : Int) = 129 ∨ (7 : Int) = 0 ∨ (7 : Int) = 1 ∨ (7 : Int) = 7 ∨ (7 : Int) = 135 ∨ (7 : Int) = 2 ∨ (7 : Int) = 3 ∨ (7 : Int) = 96 ∨ (7 : Int) = 97; decide))
  · exact st_mov135 hl z hC hz0 hz1 hz2 a1 a2 a3 hk hi _ (fun W => moves_c hl (z + 1) ⟨135, a1, a2, a3⟩ wd hk x b hcall hxb (by show (135 : Int) = 32 ∨ (135 : Int) = 128 ∨ (135 : Int) = 129 ∨ (135 : Int) = 0 ∨ (135 : Int) = 1 ∨ (135 : Int) = 7 ∨ (135 : Int) = 135 ∨ (135 : Int) = 2 ∨ (135 : Int) = 3 ∨ (135 : Int) = 96 ∨ (135 : Int) = 97; decide))
  · exact st_mov2 hl z hC hz0 hz1 hz2 a1 a2 a3 hk hi _ (fun W => moves_c hl (z + 1) ⟨2, a1, a2, a3⟩ wd hk x b hcall hxb (by show (2 : Int) = 32 ∨ (2 : Int) = 128 ∨ (2 : Int) = 129 ∨ (2 : Int) = 0 ∨ (2 : Int) = 1 ∨ (2 : Int) = 7 ∨ (2 : Int) = 135 ∨ (2 : Int) = 2 ∨ (2 : Int) = 3 ∨ (2 : Int) = 96 ∨ (2 : Int) = 97; decide))
  · exact st_mov3 hl z hC hz0 hz1 hz2 a1 a2 a3 hk hi _ (fun W => moves_c hl (z + 1) ⟨3, a1, a2, a3⟩ wd hk x b hcall hxb (by show (3 : Int) = 32 ∨ (3 : Int) = 128 ∨ (3 : Int) = 129 ∨ (3 : Int) = 0 ∨ (3 : Int) = 1 ∨ (3 : Int) = 7 ∨ (3 : Int) = 135 ∨ (3 : Int) = 2 ∨ (3 : Int) = 3 ∨ (3 : Int) = 96 ∨ (3 : Int) = 97; decide))
  · exact st_mov96 hl z hC hz0 hz1 hz2 a1 a2 a3 hk hi _ (fun W => moves_c hl (z + 1) ⟨96, a1, a2, a3⟩ wd hk x b hcall hxb (by show (96 : Int) = 32 ∨ (96 : Int) = 128 ∨ (96 : Int) = 129 ∨ (96 : Int) = 0 ∨ (96 : Int) = 1 ∨ (96 : Int) = 7 ∨ (96 : Int) = 135 ∨ (96 : Int) = 2 ∨ (96 : Int) = 3 ∨ (96 : Int) = 96 ∨ (96 : Int) = 97; decide))
  · exact st_mov97 hl z hC hz0 hz1 hz2 a1 a2 a3 hk hi _ (fun W => moves_c hl (z + 1) ⟨97, a1, a2, a3⟩ wd hk x b hcall hxb (by show (97 : Int) = 32 ∨ (97 : Int) = 128 ∨ (97 : Int) = 129 ∨ (97 : Int) = 0 ∨ (97 : Int) = 1 ∨ (97 : Int) = 7 ∨ (97 : Int) = 135 ∨ (97 : Int) = 2 ∨ (97 : Int) = 3 ∨ (97 : Int) = 96 ∨ (97 : Int) = 97; decide))
end Go.Proofs.Ytefkhcijgiagdaa.HMr
end
