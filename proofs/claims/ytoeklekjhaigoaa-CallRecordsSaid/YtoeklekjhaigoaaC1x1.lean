-- Written by a program of this session (wip/tools/unit.py) with the kit's print.
import Derived.Test.YtoeklekjhaigoaaC1x0
namespace Go.Proofs.Ytoeklekjhaigoaa.C1
open Go.RowKit Go.Proofs.YtoeklekjhaigoaaW.PrintWords Go.Proofs.YtoeklekjhaigoaaW.PrintLast Go.Proofs.YtoeklekjhaigoaaW.PrintMore
attribute [local go_sem] max2_int min2_int max_two min_two max_three min_three max_four min_four IntKind.wrap_u32 IntKind.wrap_u8   -- for this text's walks alone
set_option linter.unusedVariables false
open Go.Proofs.Ytoeklekjhaigoaa.Le
set_option linter.unusedSimpArgs false

/-! ### call_table: function 80 -/
def call_table.f  : Option ((List (S112))) := some (([(⟨(⟨#[114, 101, 97, 100]⟩ : ByteArray), 0, 63⟩ : S112), (⟨(⟨#[119, 114, 105, 116, 101]⟩ : ByteArray), 1, 64⟩ : S112), (⟨(⟨#[111, 112, 101, 110]⟩ : ByteArray), 2, (-1)⟩ : S112), (⟨(⟨#[99, 108, 111, 115, 101]⟩ : ByteArray), 3, 57⟩ : S112), (⟨(⟨#[115, 116, 97, 116]⟩ : ByteArray), 4, (-1)⟩ : S112), (⟨(⟨#[102, 115, 116, 97, 116]⟩ : ByteArray), 5, 80⟩ : S112), (⟨(⟨#[108, 115, 101, 101, 107]⟩ : ByteArray), 8, 62⟩ : S112), (⟨(⟨#[109, 109, 97, 112]⟩ : ByteArray), 9, 222⟩ : S112), (⟨(⟨#[109, 112, 114, 111, 116, 101, 99, 116]⟩ : ByteArray), 10, 226⟩ : S112), (⟨(⟨#[109, 117, 110, 109, 97, 112]⟩ : ByteArray), 11, 215⟩ : S112), (⟨(⟨#[98, 114, 107]⟩ : ByteArray), 12, 214⟩ : S112), (⟨(⟨#[105, 111, 99, 116, 108]⟩ : ByteArray), 16, 29⟩ : S112), (⟨(⟨#[97, 99, 99, 101, 115, 115]⟩ : ByteArray), 21, (-1)⟩ : S112), (⟨(⟨#[112, 105, 112, 101]⟩ : ByteArray), 22, (-1)⟩ : S112), (⟨(⟨#[100, 117, 112]⟩ : ByteArray), 32, 23⟩ : S112), (⟨(⟨#[103, 101, 116, 112, 105, 100]⟩ : ByteArray), 39, 172⟩ : S112), (⟨(⟨#[115, 111, 99, 107, 101, 116]⟩ : ByteArray), 41, 198⟩ : S112), (⟨(⟨#[99, 111, 110, 110, 101, 99, 116]⟩ : ByteArray), 42, 203⟩ : S112), (⟨(⟨#[97, 99, 99, 101, 112, 116]⟩ : ByteArray), 43, 202⟩ : S112), (⟨(⟨#[98, 105, 110, 100]⟩ : ByteArray), 49, 200⟩ : S112), (⟨(⟨#[108, 105, 115, 116, 101, 110]⟩ : ByteArray), 50, 201⟩ : S112), (⟨(⟨#[99, 108, 111, 110, 101]⟩ : ByteArray), 56, 220⟩ : S112), (⟨(⟨#[102, 111, 114, 107]⟩ : ByteArray), 57, (-1)⟩ : S112), (⟨(⟨#[101, 120, 101, 99, 118, 101]⟩ : ByteArray), 59, 221⟩ : S112), (⟨(⟨#[101, 120, 105, 116]⟩ : ByteArray), 60, 93⟩ : S112), (⟨(⟨#[107, 105, 108, 108]⟩ : ByteArray), 62, 129⟩ : S112), (⟨(⟨#[117, 110, 97, 109, 101]⟩ : ByteArray), 63, 160⟩ : S112), (⟨(⟨#[102, 99, 110, 116, 108]⟩ : ByteArray), 72, 25⟩ : S112), (⟨(⟨#[112, 116, 114, 97, 99, 101]⟩ : ByteArray), 101, 117⟩ : S112), (⟨(⟨#[103, 101, 116, 117, 105, 100]⟩ : ByteArray), 102, 174⟩ : S112), (⟨(⟨#[109, 111, 117, 110, 116]⟩ : ByteArray), 165, 40⟩ : S112), (⟨(⟨#[102, 117, 116, 101, 120]⟩ : ByteArray), 202, 98⟩ : S112), (⟨(⟨#[101, 120, 105, 116, 95, 103, 114, 111, 117, 112]⟩ : ByteArray), 231, 94⟩ : S112), (⟨(⟨#[111, 112, 101, 110, 97, 116]⟩ : ByteArray), 257, 56⟩ : S112), (⟨(⟨#[115, 101, 99, 99, 111, 109, 112]⟩ : ByteArray), 317, 277⟩ : S112)] : List (S112)))
set_option maxHeartbeats 8000000 in
set_option maxRecDepth 100000 in
theorem call_table.calls  (r : List (S112)) (w : World) (h : call_table.f  = some r) :
    Calls Try.prog 80 #[] w fun e w' => ∃ v0_ : Value, e = .returned (v0_) ∧ Kd.R k112 112 w' w.heap.size (fun _ => True) v0_ r ∧ Below w.heap.size w w' := by
  have hu112 := Try.underlying112
  have HB := Aside0.mk (Below.refl w.heap.size w)
  have H : (some (([(⟨(⟨#[114, 101, 97, 100]⟩ : ByteArray), 0, 63⟩ : S112), (⟨(⟨#[119, 114, 105, 116, 101]⟩ : ByteArray), 1, 64⟩ : S112), (⟨(⟨#[111, 112, 101, 110]⟩ : ByteArray), 2, (-1)⟩ : S112), (⟨(⟨#[99, 108, 111, 115, 101]⟩ : ByteArray), 3, 57⟩ : S112), (⟨(⟨#[115, 116, 97, 116]⟩ : ByteArray), 4, (-1)⟩ : S112), (⟨(⟨#[102, 115, 116, 97, 116]⟩ : ByteArray), 5, 80⟩ : S112), (⟨(⟨#[108, 115, 101, 101, 107]⟩ : ByteArray), 8, 62⟩ : S112), (⟨(⟨#[109, 109, 97, 112]⟩ : ByteArray), 9, 222⟩ : S112), (⟨(⟨#[109, 112, 114, 111, 116, 101, 99, 116]⟩ : ByteArray), 10, 226⟩ : S112), (⟨(⟨#[109, 117, 110, 109, 97, 112]⟩ : ByteArray), 11, 215⟩ : S112), (⟨(⟨#[98, 114, 107]⟩ : ByteArray), 12, 214⟩ : S112), (⟨(⟨#[105, 111, 99, 116, 108]⟩ : ByteArray), 16, 29⟩ : S112), (⟨(⟨#[97, 99, 99, 101, 115, 115]⟩ : ByteArray), 21, (-1)⟩ : S112), (⟨(⟨#[112, 105, 112, 101]⟩ : ByteArray), 22, (-1)⟩ : S112), (⟨(⟨#[100, 117, 112]⟩ : ByteArray), 32, 23⟩ : S112), (⟨(⟨#[103, 101, 116, 112, 105, 100]⟩ : ByteArray), 39, 172⟩ : S112), (⟨(⟨#[115, 111, 99, 107, 101, 116]⟩ : ByteArray), 41, 198⟩ : S112), (⟨(⟨#[99, 111, 110, 110, 101, 99, 116]⟩ : ByteArray), 42, 203⟩ : S112), (⟨(⟨#[97, 99, 99, 101, 112, 116]⟩ : ByteArray), 43, 202⟩ : S112), (⟨(⟨#[98, 105, 110, 100]⟩ : ByteArray), 49, 200⟩ : S112), (⟨(⟨#[108, 105, 115, 116, 101, 110]⟩ : ByteArray), 50, 201⟩ : S112), (⟨(⟨#[99, 108, 111, 110, 101]⟩ : ByteArray), 56, 220⟩ : S112), (⟨(⟨#[102, 111, 114, 107]⟩ : ByteArray), 57, (-1)⟩ : S112), (⟨(⟨#[101, 120, 101, 99, 118, 101]⟩ : ByteArray), 59, 221⟩ : S112), (⟨(⟨#[101, 120, 105, 116]⟩ : ByteArray), 60, 93⟩ : S112), (⟨(⟨#[107, 105, 108, 108]⟩ : ByteArray), 62, 129⟩ : S112), (⟨(⟨#[117, 110, 97, 109, 101]⟩ : ByteArray), 63, 160⟩ : S112), (⟨(⟨#[102, 99, 110, 116, 108]⟩ : ByteArray), 72, 25⟩ : S112), (⟨(⟨#[112, 116, 114, 97, 99, 101]⟩ : ByteArray), 101, 117⟩ : S112), (⟨(⟨#[103, 101, 116, 117, 105, 100]⟩ : ByteArray), 102, 174⟩ : S112), (⟨(⟨#[109, 111, 117, 110, 116]⟩ : ByteArray), 165, 40⟩ : S112), (⟨(⟨#[102, 117, 116, 101, 120]⟩ : ByteArray), 202, 98⟩ : S112), (⟨(⟨#[101, 120, 105, 116, 95, 103, 114, 111, 117, 112]⟩ : ByteArray), 231, 94⟩ : S112), (⟨(⟨#[111, 112, 101, 110, 97, 116]⟩ : ByteArray), 257, 56⟩ : S112), (⟨(⟨#[115, 101, 99, 99, 111, 109, 112]⟩ : ByteArray), 317, 277⟩ : S112)] : List (S112)))) = some r := h
  clear h
  obtain ⟨y101, hy101⟩ : ∃ y_ : List (S112), y_ = (([(⟨(⟨#[114, 101, 97, 100]⟩ : ByteArray), 0, 63⟩ : S112), (⟨(⟨#[119, 114, 105, 116, 101]⟩ : ByteArray), 1, 64⟩ : S112), (⟨(⟨#[111, 112, 101, 110]⟩ : ByteArray), 2, (-1)⟩ : S112), (⟨(⟨#[99, 108, 111, 115, 101]⟩ : ByteArray), 3, 57⟩ : S112), (⟨(⟨#[115, 116, 97, 116]⟩ : ByteArray), 4, (-1)⟩ : S112), (⟨(⟨#[102, 115, 116, 97, 116]⟩ : ByteArray), 5, 80⟩ : S112), (⟨(⟨#[108, 115, 101, 101, 107]⟩ : ByteArray), 8, 62⟩ : S112), (⟨(⟨#[109, 109, 97, 112]⟩ : ByteArray), 9, 222⟩ : S112), (⟨(⟨#[109, 112, 114, 111, 116, 101, 99, 116]⟩ : ByteArray), 10, 226⟩ : S112), (⟨(⟨#[109, 117, 110, 109, 97, 112]⟩ : ByteArray), 11, 215⟩ : S112), (⟨(⟨#[98, 114, 107]⟩ : ByteArray), 12, 214⟩ : S112), (⟨(⟨#[105, 111, 99, 116, 108]⟩ : ByteArray), 16, 29⟩ : S112), (⟨(⟨#[97, 99, 99, 101, 115, 115]⟩ : ByteArray), 21, (-1)⟩ : S112), (⟨(⟨#[112, 105, 112, 101]⟩ : ByteArray), 22, (-1)⟩ : S112), (⟨(⟨#[100, 117, 112]⟩ : ByteArray), 32, 23⟩ : S112), (⟨(⟨#[103, 101, 116, 112, 105, 100]⟩ : ByteArray), 39, 172⟩ : S112), (⟨(⟨#[115, 111, 99, 107, 101, 116]⟩ : ByteArray), 41, 198⟩ : S112), (⟨(⟨#[99, 111, 110, 110, 101, 99, 116]⟩ : ByteArray), 42, 203⟩ : S112), (⟨(⟨#[97, 99, 99, 101, 112, 116]⟩ : ByteArray), 43, 202⟩ : S112), (⟨(⟨#[98, 105, 110, 100]⟩ : ByteArray), 49, 200⟩ : S112), (⟨(⟨#[108, 105, 115, 116, 101, 110]⟩ : ByteArray), 50, 201⟩ : S112), (⟨(⟨#[99, 108, 111, 110, 101]⟩ : ByteArray), 56, 220⟩ : S112), (⟨(⟨#[102, 111, 114, 107]⟩ : ByteArray), 57, (-1)⟩ : S112), (⟨(⟨#[101, 120, 101, 99, 118, 101]⟩ : ByteArray), 59, 221⟩ : S112), (⟨(⟨#[101, 120, 105, 116]⟩ : ByteArray), 60, 93⟩ : S112), (⟨(⟨#[107, 105, 108, 108]⟩ : ByteArray), 62, 129⟩ : S112), (⟨(⟨#[117, 110, 97, 109, 101]⟩ : ByteArray), 63, 160⟩ : S112), (⟨(⟨#[102, 99, 110, 116, 108]⟩ : ByteArray), 72, 25⟩ : S112), (⟨(⟨#[112, 116, 114, 97, 99, 101]⟩ : ByteArray), 101, 117⟩ : S112), (⟨(⟨#[103, 101, 116, 117, 105, 100]⟩ : ByteArray), 102, 174⟩ : S112), (⟨(⟨#[109, 111, 117, 110, 116]⟩ : ByteArray), 165, 40⟩ : S112), (⟨(⟨#[102, 117, 116, 101, 120]⟩ : ByteArray), 202, 98⟩ : S112), (⟨(⟨#[101, 120, 105, 116, 95, 103, 114, 111, 117, 112]⟩ : ByteArray), 231, 94⟩ : S112), (⟨(⟨#[111, 112, 101, 110, 97, 116]⟩ : ByteArray), 257, 56⟩ : S112), (⟨(⟨#[115, 101, 99, 99, 111, 109, 112]⟩ : ByteArray), 317, 277⟩ : S112)] : List (S112))) := ⟨_, rfl⟩
  replace H : (some y101) = some r := by first | (rw [hy101]; with_reducible exact H) | (have H2_ := (Option.bind_some _ _).symm.trans H; rw [hy101]; with_reducible exact H2_) | (have H2_ := (Option.bind_some _ _).symm.trans H; with_reducible exact H2_) | with_reducible exact H | (rw [hy101]; exact H) | exact H
  have Ny101 := Aside0.mk hy101
  clear hy101
  obtain rfl := Option.some.inj H
  go_enter Try.func80, Try.ntmps80
  go_wp2_with (first | ((with_reducible refine gate_dst (N := 36) rfl ?_); refine Kd.R_lit k112 _ 112 ?hg (N := 36) ?hd (xs := ([(⟨(⟨#[114, 101, 97, 100]⟩ : ByteArray), 0, 63⟩ : S112), (⟨(⟨#[119, 114, 105, 116, 101]⟩ : ByteArray), 1, 64⟩ : S112), (⟨(⟨#[111, 112, 101, 110]⟩ : ByteArray), 2, (-1)⟩ : S112), (⟨(⟨#[99, 108, 111, 115, 101]⟩ : ByteArray), 3, 57⟩ : S112), (⟨(⟨#[115, 116, 97, 116]⟩ : ByteArray), 4, (-1)⟩ : S112), (⟨(⟨#[102, 115, 116, 97, 116]⟩ : ByteArray), 5, 80⟩ : S112), (⟨(⟨#[108, 115, 101, 101, 107]⟩ : ByteArray), 8, 62⟩ : S112), (⟨(⟨#[109, 109, 97, 112]⟩ : ByteArray), 9, 222⟩ : S112), (⟨(⟨#[109, 112, 114, 111, 116, 101, 99, 116]⟩ : ByteArray), 10, 226⟩ : S112), (⟨(⟨#[109, 117, 110, 109, 97, 112]⟩ : ByteArray), 11, 215⟩ : S112), (⟨(⟨#[98, 114, 107]⟩ : ByteArray), 12, 214⟩ : S112), (⟨(⟨#[105, 111, 99, 116, 108]⟩ : ByteArray), 16, 29⟩ : S112), (⟨(⟨#[97, 99, 99, 101, 115, 115]⟩ : ByteArray), 21, (-1)⟩ : S112), (⟨(⟨#[112, 105, 112, 101]⟩ : ByteArray), 22, (-1)⟩ : S112), (⟨(⟨#[100, 117, 112]⟩ : ByteArray), 32, 23⟩ : S112), (⟨(⟨#[103, 101, 116, 112, 105, 100]⟩ : ByteArray), 39, 172⟩ : S112), (⟨(⟨#[115, 111, 99, 107, 101, 116]⟩ : ByteArray), 41, 198⟩ : S112), (⟨(⟨#[99, 111, 110, 110, 101, 99, 116]⟩ : ByteArray), 42, 203⟩ : S112), (⟨(⟨#[97, 99, 99, 101, 112, 116]⟩ : ByteArray), 43, 202⟩ : S112), (⟨(⟨#[98, 105, 110, 100]⟩ : ByteArray), 49, 200⟩ : S112), (⟨(⟨#[108, 105, 115, 116, 101, 110]⟩ : ByteArray), 50, 201⟩ : S112), (⟨(⟨#[99, 108, 111, 110, 101]⟩ : ByteArray), 56, 220⟩ : S112), (⟨(⟨#[102, 111, 114, 107]⟩ : ByteArray), 57, (-1)⟩ : S112), (⟨(⟨#[101, 120, 101, 99, 118, 101]⟩ : ByteArray), 59, 221⟩ : S112), (⟨(⟨#[101, 120, 105, 116]⟩ : ByteArray), 60, 93⟩ : S112), (⟨(⟨#[107, 105, 108, 108]⟩ : ByteArray), 62, 129⟩ : S112), (⟨(⟨#[117, 110, 97, 109, 101]⟩ : ByteArray), 63, 160⟩ : S112), (⟨(⟨#[102, 99, 110, 116, 108]⟩ : ByteArray), 72, 25⟩ : S112), (⟨(⟨#[112, 116, 114, 97, 99, 101]⟩ : ByteArray), 101, 117⟩ : S112), (⟨(⟨#[103, 101, 116, 117, 105, 100]⟩ : ByteArray), 102, 174⟩ : S112), (⟨(⟨#[109, 111, 117, 110, 116]⟩ : ByteArray), 165, 40⟩ : S112), (⟨(⟨#[102, 117, 116, 101, 120]⟩ : ByteArray), 202, 98⟩ : S112), (⟨(⟨#[101, 120, 105, 116, 95, 103, 114, 111, 117, 112]⟩ : ByteArray), 231, 94⟩ : S112), (⟨(⟨#[111, 112, 101, 110, 97, 116]⟩ : ByteArray), 257, 56⟩ : S112), (⟨(⟨#[115, 101, 99, 99, 111, 109, 112]⟩ : ByteArray), 317, 277⟩ : S112)] : List (S112))) (inner := [.string (⟨#[114, 101, 97, 100]⟩ : ByteArray), .int .i64 0, .int .i64 63, .string (⟨#[119, 114, 105, 116, 101]⟩ : ByteArray), .int .i64 1, .int .i64 64, .string (⟨#[111, 112, 101, 110]⟩ : ByteArray), .int .i64 2, .int .i64 (-1), .string (⟨#[99, 108, 111, 115, 101]⟩ : ByteArray), .int .i64 3, .int .i64 57, .string (⟨#[115, 116, 97, 116]⟩ : ByteArray), .int .i64 4, .int .i64 (-1), .string (⟨#[102, 115, 116, 97, 116]⟩ : ByteArray), .int .i64 5, .int .i64 80, .string (⟨#[108, 115, 101, 101, 107]⟩ : ByteArray), .int .i64 8, .int .i64 62, .string (⟨#[109, 109, 97, 112]⟩ : ByteArray), .int .i64 9, .int .i64 222, .string (⟨#[109, 112, 114, 111, 116, 101, 99, 116]⟩ : ByteArray), .int .i64 10, .int .i64 226, .string (⟨#[109, 117, 110, 109, 97, 112]⟩ : ByteArray), .int .i64 11, .int .i64 215, .string (⟨#[98, 114, 107]⟩ : ByteArray), .int .i64 12, .int .i64 214, .string (⟨#[105, 111, 99, 116, 108]⟩ : ByteArray), .int .i64 16, .int .i64 29, .string (⟨#[97, 99, 99, 101, 115, 115]⟩ : ByteArray), .int .i64 21, .int .i64 (-1), .string (⟨#[112, 105, 112, 101]⟩ : ByteArray), .int .i64 22, .int .i64 (-1), .string (⟨#[100, 117, 112]⟩ : ByteArray), .int .i64 32, .int .i64 23, .string (⟨#[103, 101, 116, 112, 105, 100]⟩ : ByteArray), .int .i64 39, .int .i64 172, .string (⟨#[115, 111, 99, 107, 101, 116]⟩ : ByteArray), .int .i64 41, .int .i64 198, .string (⟨#[99, 111, 110, 110, 101, 99, 116]⟩ : ByteArray), .int .i64 42, .int .i64 203, .string (⟨#[97, 99, 99, 101, 112, 116]⟩ : ByteArray), .int .i64 43, .int .i64 202, .string (⟨#[98, 105, 110, 100]⟩ : ByteArray), .int .i64 49, .int .i64 200, .string (⟨#[108, 105, 115, 116, 101, 110]⟩ : ByteArray), .int .i64 50, .int .i64 201, .string (⟨#[99, 108, 111, 110, 101]⟩ : ByteArray), .int .i64 56, .int .i64 220, .string (⟨#[102, 111, 114, 107]⟩ : ByteArray), .int .i64 57, .int .i64 (-1), .string (⟨#[101, 120, 101, 99, 118, 101]⟩ : ByteArray), .int .i64 59, .int .i64 221, .string (⟨#[101, 120, 105, 116]⟩ : ByteArray), .int .i64 60, .int .i64 93, .string (⟨#[107, 105, 108, 108]⟩ : ByteArray), .int .i64 62, .int .i64 129, .string (⟨#[117, 110, 97, 109, 101]⟩ : ByteArray), .int .i64 63, .int .i64 160, .string (⟨#[102, 99, 110, 116, 108]⟩ : ByteArray), .int .i64 72, .int .i64 25, .string (⟨#[112, 116, 114, 97, 99, 101]⟩ : ByteArray), .int .i64 101, .int .i64 117, .string (⟨#[103, 101, 116, 117, 105, 100]⟩ : ByteArray), .int .i64 102, .int .i64 174, .string (⟨#[109, 111, 117, 110, 116]⟩ : ByteArray), .int .i64 165, .int .i64 40, .string (⟨#[102, 117, 116, 101, 120]⟩ : ByteArray), .int .i64 202, .int .i64 98, .string (⟨#[101, 120, 105, 116, 95, 103, 114, 111, 117, 112]⟩ : ByteArray), .int .i64 231, .int .i64 94, .string (⟨#[111, 112, 101, 110, 97, 116]⟩ : ByteArray), .int .i64 257, .int .i64 56, .string (⟨#[115, 101, 99, 99, 111, 109, 112]⟩ : ByteArray), .int .i64 317, .int .i64 277]) (ok := fun _ => True) (okp := fun _ => True) ?hr ?hp (fun _ hk => hk) trivial (Below.refl _ _) (Nat.le_refl _) (by simp) ?_; (case hd => rfl); (case hg => rfl); (case hr => first | (go_simp; done) | (go_simp; rfl)); (case hp => exact (Reps.c3 (show Kd.M k112 _ _ _ (⟨(⟨#[114, 101, 97, 100]⟩ : ByteArray), 0, 63⟩ : S112) [.string (⟨#[114, 101, 97, 100]⟩ : ByteArray), .int .i64 0, .int .i64 63] from (k112_mkM _ _ _ (⟨(⟨#[114, 101, 97, 100]⟩ : ByteArray), 0, 63⟩ : S112) )) (Reps.c3 (show Kd.M k112 _ _ _ (⟨(⟨#[119, 114, 105, 116, 101]⟩ : ByteArray), 1, 64⟩ : S112) [.string (⟨#[119, 114, 105, 116, 101]⟩ : ByteArray), .int .i64 1, .int .i64 64] from (k112_mkM _ _ _ (⟨(⟨#[119, 114, 105, 116, 101]⟩ : ByteArray), 1, 64⟩ : S112) )) (Reps.c3 (show Kd.M k112 _ _ _ (⟨(⟨#[111, 112, 101, 110]⟩ : ByteArray), 2, (-1)⟩ : S112) [.string (⟨#[111, 112, 101, 110]⟩ : ByteArray), .int .i64 2, .int .i64 (-1)] from (k112_mkM _ _ _ (⟨(⟨#[111, 112, 101, 110]⟩ : ByteArray), 2, (-1)⟩ : S112) )) (Reps.c3 (show Kd.M k112 _ _ _ (⟨(⟨#[99, 108, 111, 115, 101]⟩ : ByteArray), 3, 57⟩ : S112) [.string (⟨#[99, 108, 111, 115, 101]⟩ : ByteArray), .int .i64 3, .int .i64 57] from (k112_mkM _ _ _ (⟨(⟨#[99, 108, 111, 115, 101]⟩ : ByteArray), 3, 57⟩ : S112) )) (Reps.c3 (show Kd.M k112 _ _ _ (⟨(⟨#[115, 116, 97, 116]⟩ : ByteArray), 4, (-1)⟩ : S112) [.string (⟨#[115, 116, 97, 116]⟩ : ByteArray), .int .i64 4, .int .i64 (-1)] from (k112_mkM _ _ _ (⟨(⟨#[115, 116, 97, 116]⟩ : ByteArray), 4, (-1)⟩ : S112) )) (Reps.c3 (show Kd.M k112 _ _ _ (⟨(⟨#[102, 115, 116, 97, 116]⟩ : ByteArray), 5, 80⟩ : S112) [.string (⟨#[102, 115, 116, 97, 116]⟩ : ByteArray), .int .i64 5, .int .i64 80] from (k112_mkM _ _ _ (⟨(⟨#[102, 115, 116, 97, 116]⟩ : ByteArray), 5, 80⟩ : S112) )) (Reps.c3 (show Kd.M k112 _ _ _ (⟨(⟨#[108, 115, 101, 101, 107]⟩ : ByteArray), 8, 62⟩ : S112) [.string (⟨#[108, 115, 101, 101, 107]⟩ : ByteArray), .int .i64 8, .int .i64 62] from (k112_mkM _ _ _ (⟨(⟨#[108, 115, 101, 101, 107]⟩ : ByteArray), 8, 62⟩ : S112) )) (Reps.c3 (show Kd.M k112 _ _ _ (⟨(⟨#[109, 109, 97, 112]⟩ : ByteArray), 9, 222⟩ : S112) [.string (⟨#[109, 109, 97, 112]⟩ : ByteArray), .int .i64 9, .int .i64 222] from (k112_mkM _ _ _ (⟨(⟨#[109, 109, 97, 112]⟩ : ByteArray), 9, 222⟩ : S112) )) (Reps.c3 (show Kd.M k112 _ _ _ (⟨(⟨#[109, 112, 114, 111, 116, 101, 99, 116]⟩ : ByteArray), 10, 226⟩ : S112) [.string (⟨#[109, 112, 114, 111, 116, 101, 99, 116]⟩ : ByteArray), .int .i64 10, .int .i64 226] from (k112_mkM _ _ _ (⟨(⟨#[109, 112, 114, 111, 116, 101, 99, 116]⟩ : ByteArray), 10, 226⟩ : S112) )) (Reps.c3 (show Kd.M k112 _ _ _ (⟨(⟨#[109, 117, 110, 109, 97, 112]⟩ : ByteArray), 11, 215⟩ : S112) [.string (⟨#[109, 117, 110, 109, 97, 112]⟩ : ByteArray), .int .i64 11, .int .i64 215] from (k112_mkM _ _ _ (⟨(⟨#[109, 117, 110, 109, 97, 112]⟩ : ByteArray), 11, 215⟩ : S112) )) (Reps.c3 (show Kd.M k112 _ _ _ (⟨(⟨#[98, 114, 107]⟩ : ByteArray), 12, 214⟩ : S112) [.string (⟨#[98, 114, 107]⟩ : ByteArray), .int .i64 12, .int .i64 214] from (k112_mkM _ _ _ (⟨(⟨#[98, 114, 107]⟩ : ByteArray), 12, 214⟩ : S112) )) (Reps.c3 (show Kd.M k112 _ _ _ (⟨(⟨#[105, 111, 99, 116, 108]⟩ : ByteArray), 16, 29⟩ : S112) [.string (⟨#[105, 111, 99, 116, 108]⟩ : ByteArray), .int .i64 16, .int .i64 29] from (k112_mkM _ _ _ (⟨(⟨#[105, 111, 99, 116, 108]⟩ : ByteArray), 16, 29⟩ : S112) )) (Reps.c3 (show Kd.M k112 _ _ _ (⟨(⟨#[97, 99, 99, 101, 115, 115]⟩ : ByteArray), 21, (-1)⟩ : S112) [.string (⟨#[97, 99, 99, 101, 115, 115]⟩ : ByteArray), .int .i64 21, .int .i64 (-1)] from (k112_mkM _ _ _ (⟨(⟨#[97, 99, 99, 101, 115, 115]⟩ : ByteArray), 21, (-1)⟩ : S112) )) (Reps.c3 (show Kd.M k112 _ _ _ (⟨(⟨#[112, 105, 112, 101]⟩ : ByteArray), 22, (-1)⟩ : S112) [.string (⟨#[112, 105, 112, 101]⟩ : ByteArray), .int .i64 22, .int .i64 (-1)] from (k112_mkM _ _ _ (⟨(⟨#[112, 105, 112, 101]⟩ : ByteArray), 22, (-1)⟩ : S112) )) (Reps.c3 (show Kd.M k112 _ _ _ (⟨(⟨#[100, 117, 112]⟩ : ByteArray), 32, 23⟩ : S112) [.string (⟨#[100, 117, 112]⟩ : ByteArray), .int .i64 32, .int .i64 23] from (k112_mkM _ _ _ (⟨(⟨#[100, 117, 112]⟩ : ByteArray), 32, 23⟩ : S112) )) (Reps.c3 (show Kd.M k112 _ _ _ (⟨(⟨#[103, 101, 116, 112, 105, 100]⟩ : ByteArray), 39, 172⟩ : S112) [.string (⟨#[103, 101, 116, 112, 105, 100]⟩ : ByteArray), .int .i64 39, .int .i64 172] from (k112_mkM _ _ _ (⟨(⟨#[103, 101, 116, 112, 105, 100]⟩ : ByteArray), 39, 172⟩ : S112) )) (Reps.c3 (show Kd.M k112 _ _ _ (⟨(⟨#[115, 111, 99, 107, 101, 116]⟩ : ByteArray), 41, 198⟩ : S112) [.string (⟨#[115, 111, 99, 107, 101, 116]⟩ : ByteArray), .int .i64 41, .int .i64 198] from (k112_mkM _ _ _ (⟨(⟨#[115, 111, 99, 107, 101, 116]⟩ : ByteArray), 41, 198⟩ : S112) )) (Reps.c3 (show Kd.M k112 _ _ _ (⟨(⟨#[99, 111, 110, 110, 101, 99, 116]⟩ : ByteArray), 42, 203⟩ : S112) [.string (⟨#[99, 111, 110, 110, 101, 99, 116]⟩ : ByteArray), .int .i64 42, .int .i64 203] from (k112_mkM _ _ _ (⟨(⟨#[99, 111, 110, 110, 101, 99, 116]⟩ : ByteArray), 42, 203⟩ : S112) )) (Reps.c3 (show Kd.M k112 _ _ _ (⟨(⟨#[97, 99, 99, 101, 112, 116]⟩ : ByteArray), 43, 202⟩ : S112) [.string (⟨#[97, 99, 99, 101, 112, 116]⟩ : ByteArray), .int .i64 43, .int .i64 202] from (k112_mkM _ _ _ (⟨(⟨#[97, 99, 99, 101, 112, 116]⟩ : ByteArray), 43, 202⟩ : S112) )) (Reps.c3 (show Kd.M k112 _ _ _ (⟨(⟨#[98, 105, 110, 100]⟩ : ByteArray), 49, 200⟩ : S112) [.string (⟨#[98, 105, 110, 100]⟩ : ByteArray), .int .i64 49, .int .i64 200] from (k112_mkM _ _ _ (⟨(⟨#[98, 105, 110, 100]⟩ : ByteArray), 49, 200⟩ : S112) )) (Reps.c3 (show Kd.M k112 _ _ _ (⟨(⟨#[108, 105, 115, 116, 101, 110]⟩ : ByteArray), 50, 201⟩ : S112) [.string (⟨#[108, 105, 115, 116, 101, 110]⟩ : ByteArray), .int .i64 50, .int .i64 201] from (k112_mkM _ _ _ (⟨(⟨#[108, 105, 115, 116, 101, 110]⟩ : ByteArray), 50, 201⟩ : S112) )) (Reps.c3 (show Kd.M k112 _ _ _ (⟨(⟨#[99, 108, 111, 110, 101]⟩ : ByteArray), 56, 220⟩ : S112) [.string (⟨#[99, 108, 111, 110, 101]⟩ : ByteArray), .int .i64 56, .int .i64 220] from (k112_mkM _ _ _ (⟨(⟨#[99, 108, 111, 110, 101]⟩ : ByteArray), 56, 220⟩ : S112) )) (Reps.c3 (show Kd.M k112 _ _ _ (⟨(⟨#[102, 111, 114, 107]⟩ : ByteArray), 57, (-1)⟩ : S112) [.string (⟨#[102, 111, 114, 107]⟩ : ByteArray), .int .i64 57, .int .i64 (-1)] from (k112_mkM _ _ _ (⟨(⟨#[102, 111, 114, 107]⟩ : ByteArray), 57, (-1)⟩ : S112) )) (Reps.c3 (show Kd.M k112 _ _ _ (⟨(⟨#[101, 120, 101, 99, 118, 101]⟩ : ByteArray), 59, 221⟩ : S112) [.string (⟨#[101, 120, 101, 99, 118, 101]⟩ : ByteArray), .int .i64 59, .int .i64 221] from (k112_mkM _ _ _ (⟨(⟨#[101, 120, 101, 99, 118, 101]⟩ : ByteArray), 59, 221⟩ : S112) )) (Reps.c3 (show Kd.M k112 _ _ _ (⟨(⟨#[101, 120, 105, 116]⟩ : ByteArray), 60, 93⟩ : S112) [.string (⟨#[101, 120, 105, 116]⟩ : ByteArray), .int .i64 60, .int .i64 93] from (k112_mkM _ _ _ (⟨(⟨#[101, 120, 105, 116]⟩ : ByteArray), 60, 93⟩ : S112) )) (Reps.c3 (show Kd.M k112 _ _ _ (⟨(⟨#[107, 105, 108, 108]⟩ : ByteArray), 62, 129⟩ : S112) [.string (⟨#[107, 105, 108, 108]⟩ : ByteArray), .int .i64 62, .int .i64 129] from (k112_mkM _ _ _ (⟨(⟨#[107, 105, 108, 108]⟩ : ByteArray), 62, 129⟩ : S112) )) (Reps.c3 (show Kd.M k112 _ _ _ (⟨(⟨#[117, 110, 97, 109, 101]⟩ : ByteArray), 63, 160⟩ : S112) [.string (⟨#[117, 110, 97, 109, 101]⟩ : ByteArray), .int .i64 63, .int .i64 160] from (k112_mkM _ _ _ (⟨(⟨#[117, 110, 97, 109, 101]⟩ : ByteArray), 63, 160⟩ : S112) )) (Reps.c3 (show Kd.M k112 _ _ _ (⟨(⟨#[102, 99, 110, 116, 108]⟩ : ByteArray), 72, 25⟩ : S112) [.string (⟨#[102, 99, 110, 116, 108]⟩ : ByteArray), .int .i64 72, .int .i64 25] from (k112_mkM _ _ _ (⟨(⟨#[102, 99, 110, 116, 108]⟩ : ByteArray), 72, 25⟩ : S112) )) (Reps.c3 (show Kd.M k112 _ _ _ (⟨(⟨#[112, 116, 114, 97, 99, 101]⟩ : ByteArray), 101, 117⟩ : S112) [.string (⟨#[112, 116, 114, 97, 99, 101]⟩ : ByteArray), .int .i64 101, .int .i64 117] from (k112_mkM _ _ _ (⟨(⟨#[112, 116, 114, 97, 99, 101]⟩ : ByteArray), 101, 117⟩ : S112) )) (Reps.c3 (show Kd.M k112 _ _ _ (⟨(⟨#[103, 101, 116, 117, 105, 100]⟩ : ByteArray), 102, 174⟩ : S112) [.string (⟨#[103, 101, 116, 117, 105, 100]⟩ : ByteArray), .int .i64 102, .int .i64 174] from (k112_mkM _ _ _ (⟨(⟨#[103, 101, 116, 117, 105, 100]⟩ : ByteArray), 102, 174⟩ : S112) )) (Reps.c3 (show Kd.M k112 _ _ _ (⟨(⟨#[109, 111, 117, 110, 116]⟩ : ByteArray), 165, 40⟩ : S112) [.string (⟨#[109, 111, 117, 110, 116]⟩ : ByteArray), .int .i64 165, .int .i64 40] from (k112_mkM _ _ _ (⟨(⟨#[109, 111, 117, 110, 116]⟩ : ByteArray), 165, 40⟩ : S112) )) (Reps.c3 (show Kd.M k112 _ _ _ (⟨(⟨#[102, 117, 116, 101, 120]⟩ : ByteArray), 202, 98⟩ : S112) [.string (⟨#[102, 117, 116, 101, 120]⟩ : ByteArray), .int .i64 202, .int .i64 98] from (k112_mkM _ _ _ (⟨(⟨#[102, 117, 116, 101, 120]⟩ : ByteArray), 202, 98⟩ : S112) )) (Reps.c3 (show Kd.M k112 _ _ _ (⟨(⟨#[101, 120, 105, 116, 95, 103, 114, 111, 117, 112]⟩ : ByteArray), 231, 94⟩ : S112) [.string (⟨#[101, 120, 105, 116, 95, 103, 114, 111, 117, 112]⟩ : ByteArray), .int .i64 231, .int .i64 94] from (k112_mkM _ _ _ (⟨(⟨#[101, 120, 105, 116, 95, 103, 114, 111, 117, 112]⟩ : ByteArray), 231, 94⟩ : S112) )) (Reps.c3 (show Kd.M k112 _ _ _ (⟨(⟨#[111, 112, 101, 110, 97, 116]⟩ : ByteArray), 257, 56⟩ : S112) [.string (⟨#[111, 112, 101, 110, 97, 116]⟩ : ByteArray), .int .i64 257, .int .i64 56] from (k112_mkM _ _ _ (⟨(⟨#[111, 112, 101, 110, 97, 116]⟩ : ByteArray), 257, 56⟩ : S112) )) (Reps.c3 (show Kd.M k112 _ _ _ (⟨(⟨#[115, 101, 99, 99, 111, 109, 112]⟩ : ByteArray), 317, 277⟩ : S112) [.string (⟨#[115, 101, 99, 99, 111, 109, 112]⟩ : ByteArray), .int .i64 317, .int .i64 277] from (k112_mkM _ _ _ (⟨(⟨#[115, 101, 99, 99, 111, 109, 112]⟩ : ByteArray), 317, 277⟩ : S112) )) (Reps.none _ _))))))))))))))))))))))))))))))))))))); intro v102 w1 ho2 hb hg_ hnew_; clear hg_ hnew_; (first | rw [← Ny101.out] at ho2 | (simp only [Int.reduceToNat] at ho2; rw [← Ny101.out] at ho2)); have n0_ := Aside0.mk (Kd.R_lower ho2 (below_size (by repeat (first | (with_reducible first | exact HB.out | apply below_alloc | apply pw_below_drewN | apply below_drew1) | exact HB.out)))); have n1_ := Aside0.mk (below_step (by repeat (first | (with_reducible first | exact HB.out | apply below_alloc | apply pw_below_drewN | apply below_drew1) | exact HB.out)) hb); clear HB; have HO103 := n0_; have HB := n1_; clear n0_ n1_; clear hb ho2))
  go_ret
  exact ⟨_, by first | rfl | (simp [errW_none, errW_some] <;> rfl) | (simp [*, errW_none, errW_some] <;> rfl), by (with_reducible repeat (first | apply Kd.R_alloc | apply Kd.R_drewN | apply Kd.R_drew)); exact HO103.out, by repeat (first | (with_reducible first | exact HB.out | apply below_alloc | apply pw_below_drewN | apply below_drew1) | exact HB.out)⟩

/-! ### call_row_number: function 81 -/
def call_row_number.f (a0_0 : ByteArray) (a0_1 : Int) (a0_2 : Int) (a1 : Int) : Option (Int × Bool) := if a1 = 3221225534 then (some ((mx a0_1 0) % 4294967296, decide (a0_1 ≥ 0))) else (if a1 = 3221225655 then (some ((mx a0_2 0) % 4294967296, decide (a0_2 ≥ 0))) else (some (mx (-1) 0, decide ((-1) ≥ 0))))
set_option maxHeartbeats 8000000 in
set_option maxRecDepth 100000 in
theorem call_row_number.calls (a0_0 : ByteArray) (a0_1 : Int) (a0_2 : Int) (a1 : Int) (r1 : Int) (r2 : Bool) (w : World) (h : call_row_number.f a0_0 a0_1 a0_2 a1 = some (r1, r2)) :
    Calls Try.prog 81 #[.agg #[.string a0_0, .int .i64 a0_1, .int .i64 a0_2], .int .u32 a1] w fun e w' => e = .returned (.tuple #[.int .u32 r1, .bool r2]) ∧ Below w.heap.size w w' := by
  have hu112 := Try.underlying112
  have HB := Aside0.mk (Below.refl w.heap.size w)
  have H : (if a1 = 3221225534 then (some ((mx a0_1 0) % 4294967296, decide (a0_1 ≥ 0))) else (if a1 = 3221225655 then (some ((mx a0_2 0) % 4294967296, decide (a0_2 ≥ 0))) else (some (mx (-1) 0, decide ((-1) ≥ 0))))) = some (r1, r2) := h
  clear h
  by_cases c3 : a1 = 3221225534
  · rw [if_pos c3] at H
    have c3b0 : (a1 == 3221225534) = true := beq_iff_eq.mpr c3
    have c3b1 : (a1 != 3221225534) = false := bne_eq_false_iff_eq.mpr c3
    clear c3
    obtain ⟨ji4, hji4⟩ : ∃ j_ : Int, (mx a0_1 0) = j_ := ⟨_, rfl⟩
    replace H : (some ((ji4) % 4294967296, decide (a0_1 ≥ 0))) = some (r1, r2) := by first | (rw [hji4] at H; exact H) | (simp only [hji4] at H ⊢; exact H)
    (try (have hji4l : 0 ≤ ji4 := by (rw [← hji4]; unfold mx; (repeat' split) <;> omega)))
    (try (have hji4m : 0 ≤ ji4 := by omega))
    have hji4_ : (if a0_1 < 0 then 0 else a0_1) = ji4 := hji4
    simp only [Option.some.injEq, Prod.mk.injEq] at H
    obtain ⟨rfl, rfl⟩ := H
    go_enter Try.func81, Try.ntmps81
    go_wp2_with (first | ((with_reducible refine gate_dst (N := 2) rfl ?_); refine box_event ?hg (N := 2) ?hd (cs := #[.string a0_0, .int .i64 a0_1, .int .i64 a0_2]) (t := 112) ?hr ?_; (case hd => rfl); (case hg => rfl); (case hr => first | (go_simp; done) | (go_simp; rfl)); intro gb104 hg w5 hbox hb; have n0_ := Aside0.mk (below_step (by repeat (first | (with_reducible first | exact HB.out | apply below_alloc | apply pw_below_drewN | apply below_drew1) | exact HB.out)) hb); have n1_ := Aside0.mk (hbox); have n2_ := Aside0.mk ((by rw [hg]; exact (below_size (by repeat (first | (with_reducible first | exact HB.out | apply below_alloc | apply pw_below_drewN | apply below_drew1) | exact HB.out))) : w.heap.size ≤ gb104)); have n3_ := Aside0.mk ((by rw [hg]; exact (below_size (by repeat (first | (with_reducible first | exact HB.out | apply below_alloc | apply pw_below_drewN | apply below_drew1) | exact HB.out))) : w.heap.size ≤ gb104)); clear HB; have HB := n0_; have BK104 := n1_; have GW104 := n2_; have GE104 := n3_; clear n0_ n1_ n2_ n3_; clear hb hbox hg; have hcz6_0 : w5.cell? ⟨gb104, 0, none⟩ = some (.string a0_0) := (blk_cell BK104.out 0).trans rfl; have hcz6_1 : w5.cell? ⟨gb104, 1, none⟩ = some (.int .i64 a0_1) := (blk_cell BK104.out 1).trans rfl; have hcz6_2 : w5.cell? ⟨gb104, 2, none⟩ = some (.int .i64 a0_2) := (blk_cell BK104.out 2).trans rfl; have hfz6_0 := blk_frozen BK104.out 0; have hfz6_1 := blk_frozen BK104.out 1; have hfz6_2 := blk_frozen BK104.out 2))
    go_ret2
    exact ⟨by first | rfl | (simp [errW_none, errW_some] <;> rfl) | (simp only [← hji4]; first | rfl | (simp [errW_none, errW_some] <;> rfl)) | (simp [*, errW_none, errW_some] <;> rfl), by repeat (first | (with_reducible first | exact HB.out | apply below_alloc | apply pw_below_drewN | apply below_drew1 | refine below_set ?_ GE104.out) | exact HB.out)⟩
  · rw [if_neg c3] at H
    have c3b0 : (a1 == 3221225534) = false := beq_eq_false_iff_ne.mpr c3
    have c3b1 : (a1 != 3221225534) = true := bne_iff_ne.mpr c3
    by_cases c7 : a1 = 3221225655
    · rw [if_pos c7] at H
      have c7b0 : (a1 == 3221225655) = true := beq_iff_eq.mpr c7
      have c7b1 : (a1 != 3221225655) = false := bne_eq_false_iff_eq.mpr c7
      clear c7
      obtain ⟨ji8, hji8⟩ : ∃ j_ : Int, (mx a0_2 0) = j_ := ⟨_, rfl⟩
      replace H : (some ((ji8) % 4294967296, decide (a0_2 ≥ 0))) = some (r1, r2) := by first | (rw [hji8] at H; exact H) | (simp only [hji8] at H ⊢; exact H)
      (try (have hji8l : 0 ≤ ji8 := by (rw [← hji8]; unfold mx; (repeat' split) <;> omega)))
      (try (have hji8m : 0 ≤ ji8 := by omega))
      have hji8_ : (if a0_2 < 0 then 0 else a0_2) = ji8 := hji8
      simp only [Option.some.injEq, Prod.mk.injEq] at H
      obtain ⟨rfl, rfl⟩ := H
      go_enter Try.func81, Try.ntmps81
      go_wp2_with (first | ((with_reducible refine gate_dst (N := 2) rfl ?_); refine box_event ?hg (N := 2) ?hd (cs := #[.string a0_0, .int .i64 a0_1, .int .i64 a0_2]) (t := 112) ?hr ?_; (case hd => rfl); (case hg => rfl); (case hr => first | (go_simp; done) | (go_simp; rfl)); intro gb104 hg w9 hbox hb; have n0_ := Aside0.mk (below_step (by repeat (first | (with_reducible first | exact HB.out | apply below_alloc | apply pw_below_drewN | apply below_drew1) | exact HB.out)) hb); have n1_ := Aside0.mk (hbox); have n2_ := Aside0.mk ((by rw [hg]; exact (below_size (by repeat (first | (with_reducible first | exact HB.out | apply below_alloc | apply pw_below_drewN | apply below_drew1) | exact HB.out))) : w.heap.size ≤ gb104)); have n3_ := Aside0.mk ((by rw [hg]; exact (below_size (by repeat (first | (with_reducible first | exact HB.out | apply below_alloc | apply pw_below_drewN | apply below_drew1) | exact HB.out))) : w.heap.size ≤ gb104)); clear HB; have HB := n0_; have BK104 := n1_; have GW104 := n2_; have GE104 := n3_; clear n0_ n1_ n2_ n3_; clear hb hbox hg; have hcz10_0 : w9.cell? ⟨gb104, 0, none⟩ = some (.string a0_0) := (blk_cell BK104.out 0).trans rfl; have hcz10_1 : w9.cell? ⟨gb104, 1, none⟩ = some (.int .i64 a0_1) := (blk_cell BK104.out 1).trans rfl; have hcz10_2 : w9.cell? ⟨gb104, 2, none⟩ = some (.int .i64 a0_2) := (blk_cell BK104.out 2).trans rfl; have hfz10_0 := blk_frozen BK104.out 0; have hfz10_1 := blk_frozen BK104.out 1; have hfz10_2 := blk_frozen BK104.out 2))
      go_ret2
      exact ⟨by first | rfl | (simp [errW_none, errW_some] <;> rfl) | (simp only [← hji8]; first | rfl | (simp [errW_none, errW_some] <;> rfl)) | (simp [*, errW_none, errW_some] <;> rfl), by repeat (first | (with_reducible first | exact HB.out | apply below_alloc | apply pw_below_drewN | apply below_drew1 | refine below_set ?_ GE104.out) | exact HB.out)⟩
    · rw [if_neg c7] at H
      have c7b0 : (a1 == 3221225655) = false := beq_eq_false_iff_ne.mpr c7
      have c7b1 : (a1 != 3221225655) = true := bne_iff_ne.mpr c7
      obtain ⟨ji11, hji11⟩ : ∃ j_ : Int, (mx (-1) 0) = j_ := ⟨_, rfl⟩
      replace H : (some (ji11, decide ((-1) ≥ 0))) = some (r1, r2) := by first | (rw [hji11] at H; exact H) | (simp only [hji11] at H ⊢; exact H)
      (try (have hji11h : ji11 ≤ 0 := by (rw [← hji11]; unfold mx; (repeat' split) <;> omega)))
      (try (have hji11g : ji11 ≤ 64 := by omega))
      (try (have hji11l : 0 ≤ ji11 := by (rw [← hji11]; unfold mx; (repeat' split) <;> omega)))
      (try (have hji11m : 0 ≤ ji11 := by omega))
      have hji11_ : (if (-1) < 0 then 0 else (-1)) = ji11 := hji11
      simp only [Option.some.injEq, Prod.mk.injEq] at H
      obtain ⟨rfl, rfl⟩ := H
      go_enter Try.func81, Try.ntmps81
      go_wp2_with (first | ((with_reducible refine gate_dst (N := 2) rfl ?_); refine box_event ?hg (N := 2) ?hd (cs := #[.string a0_0, .int .i64 a0_1, .int .i64 a0_2]) (t := 112) ?hr ?_; (case hd => rfl); (case hg => rfl); (case hr => first | (go_simp; done) | (go_simp; rfl)); intro gb104 hg w12 hbox hb; have n0_ := Aside0.mk (below_step (by repeat (first | (with_reducible first | exact HB.out | apply below_alloc | apply pw_below_drewN | apply below_drew1) | exact HB.out)) hb); have n1_ := Aside0.mk (hbox); have n2_ := Aside0.mk ((by rw [hg]; exact (below_size (by repeat (first | (with_reducible first | exact HB.out | apply below_alloc | apply pw_below_drewN | apply below_drew1) | exact HB.out))) : w.heap.size ≤ gb104)); have n3_ := Aside0.mk ((by rw [hg]; exact (below_size (by repeat (first | (with_reducible first | exact HB.out | apply below_alloc | apply pw_below_drewN | apply below_drew1) | exact HB.out))) : w.heap.size ≤ gb104)); clear HB; have HB := n0_; have BK104 := n1_; have GW104 := n2_; have GE104 := n3_; clear n0_ n1_ n2_ n3_; clear hb hbox hg))
      go_ret2
      exact ⟨by first | rfl | (simp [errW_none, errW_some] <;> rfl) | (simp only [← hji11]; first | rfl | (simp [errW_none, errW_some] <;> rfl)) | (simp [*, errW_none, errW_some] <;> rfl), by repeat (first | (with_reducible first | exact HB.out | apply below_alloc | apply pw_below_drewN | apply below_drew1 | refine below_set ?_ GE104.out) | exact HB.out)⟩

/-! ### call_Nr: function 30 -/
def call_Nr.l0 : Nat → Int → ByteArray → List (S112) → Int → Int → Option (Int × Bool)
  | 0, _, _, _, _, _ => none
  | k + 1, x0, x1, x8, x9, x10 => if x10 < x9 then (if 0 ≤ x10 then (if x10 < (x8.length : Int) then (if ((rd_T112 x8 x10).f0).toList = x1.toList then ((call_row_number.f ((rd_T112 x8 x10).f0) ((rd_T112 x8 x10).f1) ((rd_T112 x8 x10).f2) x0).bind fun bt110 => (some (bt110.1, bt110.2))) else (call_Nr.l0 k x0 x1 x8 x9 (wrap64 (x10 + 1)))) else (none)) else (none)) else (some (0, false))
def call_Nr.f (k : Nat) (a0 : Int) (a1 : ByteArray) : Option (Int × Bool) := (call_table.f).bind fun t105 => (call_Nr.l0 k a0 a1 t105 (t105.length : Int) 0)
theorem call_Nr.mono_l : ∀ k, (∀ y0 y1 y2 y3 y4, LeO (call_Nr.l0 k y0 y1 y2 y3 y4) (call_Nr.l0 (k + 1) y0 y1 y2 y3 y4))
  | 0 => fun _ _ _ _ _ r h => by simp [call_Nr.l0] at h
  | k + 1 => by
    have ih0 := call_Nr.mono_l k
    · intro y0 y1 y2 y3 y4
      unfold call_Nr.l0
      repeat' first
      | (with_reducible exact ih0 _ _ _ _ _)
      | (with_reducible exact LeO.refl _)
      | (with_reducible exact LeO.none _)
      | (with_reducible refine LeO.ite ?_ ?_)
      | (with_reducible refine LeO.bind ?_ (fun _ => ?_))
      | exact ih0 _ _ _ _ _
      | exact LeO.none _
      | refine LeO.ite ?_ ?_
      | refine LeO.bind ?_ (fun _ => ?_)
theorem call_Nr.mono : ∀ a0 a1 k, LeO (call_Nr.f k a0 a1) (call_Nr.f (k + 1) a0 a1) := by
  intro a0 a1 k
  have ih0 := call_Nr.mono_l k
  unfold call_Nr.f
  repeat' first
      | (with_reducible exact ih0 _ _ _ _ _)
      | (with_reducible exact LeO.refl _)
      | (with_reducible exact LeO.none _)
      | (with_reducible refine LeO.ite ?_ ?_)
      | (with_reducible refine LeO.bind ?_ (fun _ => ?_))
      | exact ih0 _ _ _ _ _
      | exact LeO.none _
      | refine LeO.ite ?_ ?_
      | refine LeO.bind ?_ (fun _ => ?_)
set_option maxHeartbeats 8000000 in
set_option maxRecDepth 100000 in
theorem call_Nr.calls (k : Nat) (a0 : Int) (a1 : ByteArray) (r1 : Int) (r2 : Bool) (w : World) (h : call_Nr.f k a0 a1 = some (r1, r2)) :
    Calls Try.prog 30 #[.int .u32 a0, .string a1] w fun e w' => e = .returned (.tuple #[.int .u32 r1, .bool r2]) ∧ Below w.heap.size w w' := by
  have hu112 := Try.underlying112
  have HB := Aside0.mk (Below.refl w.heap.size w)
  have H : ((call_table.f).bind fun t105 => (call_Nr.l0 k a0 a1 t105 (t105.length : Int) 0)) = some (r1, r2) := h
  clear h
  replace H := Option.bind_eq_some_iff.mp H
  obtain ⟨t105, A30, H⟩ := H
  replace H : (call_Nr.l0 k a0 a1 t105 (t105.length : Int) 0) = some (r1, r2) := H
  have A3 := Aside0.mk A30
  clear A30
  have H' := Aside0.mk H
  clear H
  go_enter Try.func30, Try.ntmps30
  go_wp2_with (first | ((with_reducible refine gate_callee (f := 80) rfl ?_); refine goesL_ (some 8) rfl rfl Try.func80 (by kernel_rfl) rfl #[] rfl (by (try simp only [List.map_toArray, List.map_cons, List.map_nil]); first | done | rfl | (simp only [List.length_drop, List.length_take]; rfl)) ?_; (with_reducible refine (call_table.calls  t105 _ A3.out).mono ?_); rintro e w4 ⟨v106, rfl, ho0, hb⟩; refine ⟨_, rfl, ?_⟩; have n0_ := Aside0.mk (Kd.R_lower ho0 (below_size (by repeat (first | (with_reducible first | exact HB.out | apply below_alloc | apply pw_below_drewN | apply below_drew1) | exact HB.out)))); have n1_ := Aside0.mk (below_step (by repeat (first | (with_reducible first | exact HB.out | apply below_alloc | apply pw_below_drewN | apply below_drew1) | exact HB.out)) hb); clear HB; have HO107 := n0_; have HB := n1_; clear n0_ n1_; (try clear hb); (try clear hb2); (try clear hk); (try clear hi); (try clear ho0); obtain ⟨Ao5, co5, eo5⟩ := Kd.R_slice HO107.out; subst eo5))
  go_loopg [10] k (fun kq v10 w' => ∃ (x10_1 : Int), v10 = .int .i64 x10_1 ∧ Aside0 (call_Nr.l0 kq a0 a1 t105 (t105.length : Int) x10_1 = some (r1, r2)) ∧ Aside0 (kq ≤ k) ∧ Aside0 (Kd.R k112 112 w' w.heap.size (fun _ => True) (.slice Ao5 t105.length co5) t105) ∧ Aside0 (Below w.heap.size w w'))
  case atStart => exact ⟨(0), (by first | rfl | (simp; done) | (simp [*]; done)), H', ⟨Nat.le_refl _⟩, ⟨by (with_reducible repeat (first | apply Kd.R_alloc | apply Kd.R_drewN | apply Kd.R_drew)); exact HO107.out⟩, ⟨by repeat (first | (with_reducible first | exact HB.out | apply below_alloc | apply pw_below_drewN | apply below_drew1) | exact HB.out)⟩⟩
  case round =>
    clear H'
    try clear p2
    try clear c3
    obtain ⟨x10_1, rfl, HA, HK1, HO_8, HB⟩ := hrel
    cases gk with
    | zero => exact absurd HA.out (by simp [call_Nr.l0])
    | succ k1 =>
      have H := HA.out
      clear HA
      simp only [call_Nr.l0] at H
      by_cases c6 : x10_1 < (t105.length : Int)
      · rw [if_pos c6] at H
        have c6b0 : decide (x10_1 < (t105.length : Int)) = true := decide_eq_true c6
        clear c6
        by_cases c7 : 0 ≤ x10_1
        · rw [if_pos c7] at H
          have c7b0 : decide (0 ≤ x10_1) = true := decide_eq_true c7
          clear c7
          by_cases c8 : x10_1 < (t105.length : Int)
          · rw [if_pos c8] at H
            have c8b0 : decide (x10_1 < (t105.length : Int)) = true := decide_eq_true c8
            clear c8
            by_cases c9 : ((rd_T112 t105 x10_1).f0).toList = a1.toList
            · rw [if_pos c9] at H
              have c9b0 : (((rd_T112 t105 x10_1).f0).toList == a1.toList) = true := beq_iff_eq.mpr c9
              have c9b1 : (((rd_T112 t105 x10_1).f0).toList != a1.toList) = false := bne_eq_false_iff_eq.mpr c9
              clear c9
              replace H := Option.bind_eq_some_iff.mp H
              obtain ⟨⟨t110, t111⟩, A100, H⟩ := H
              replace H : (some (t110, t111)) = some (r1, r2) := H
              have A10 := Aside0.mk A100
              clear A100
              simp only [Option.some.injEq, Prod.mk.injEq] at H
              obtain ⟨rfl, rfl⟩ := H
              have p108 : 0 ≤ (x10_1 : Int) := of_decide_eq_true (by first | (with_reducible assumption) | assumption)
              have q108 : x10_1 < (t105.length : Int) := of_decide_eq_true (by first | (with_reducible assumption) | assumption)
              obtain ⟨ad108, e108, hx108_0, hx108_1, hx108_2⟩ := at_T112 (Kd.R_reads' HO_8.out).2.2 x10_1 p108 q108
              cases e108
              replace p108 := eq_true p108
              replace q108 := eq_true q108
              go_wp2_with (first | ((with_reducible refine gate_dst (N := 7) rfl ?_); refine box_event ?hg (N := 7) ?hd (cs := #[.string (⟨#[]⟩ : ByteArray), .int .i64 0, .int .i64 0]) (t := 112) ?hr ?_; (case hd => rfl); (case hg => rfl); (case hr => first | (go_simp; done) | (go_simp; rfl)); intro gb109 hg w11 hbox hb; have n0_ := Aside0.mk (Kd.R_below (Kd.R_elderB (by (with_reducible repeat (first | apply Kd.R_alloc | apply Kd.R_drewN | apply Kd.R_drew)); exact HO_8.out) gb109 (Nat.le_of_eq hg.symm)) hb); have n1_ := Aside0.mk (below_step (by repeat (first | (with_reducible first | exact HB.out | apply below_alloc | apply pw_below_drewN | apply below_drew1) | exact HB.out)) hb); have n2_ := Aside0.mk (hbox); have n3_ := Aside0.mk ((by rw [hg]; exact (below_size (by repeat (first | (with_reducible first | exact HB.out | apply below_alloc | apply pw_below_drewN | apply below_drew1) | exact HB.out))) : w.heap.size ≤ gb109)); have n4_ := Aside0.mk ((by rw [hg]; exact (below_size (by repeat (first | (with_reducible first | exact HB.out | apply below_alloc | apply pw_below_drewN | apply below_drew1) | exact HB.out))) : w.heap.size ≤ gb109)); clear HO_8; clear HB; have HO_8 := n0_; have HB := n1_; have BK109 := n2_; have GW109 := n3_; have GE109 := n4_; clear n0_ n1_ n2_ n3_ n4_; clear hb hbox hg; have hcz12_0 : w11.cell? ⟨gb109, 0, none⟩ = some (.string (⟨#[]⟩ : ByteArray)) := (blk_cell BK109.out 0).trans rfl; have hcz12_1 : w11.cell? ⟨gb109, 1, none⟩ = some (.int .i64 0) := (blk_cell BK109.out 1).trans rfl; have hcz12_2 : w11.cell? ⟨gb109, 2, none⟩ = some (.int .i64 0) := (blk_cell BK109.out 2).trans rfl; have hfz12_0 := blk_frozen BK109.out 0; have hfz12_1 := blk_frozen BK109.out 1; have hfz12_2 := blk_frozen BK109.out 2) | ((with_reducible refine gate_callee (f := 81) rfl ?_); refine goesL_ (some 20) rfl rfl Try.func81 (by kernel_rfl) rfl #[.agg #[.string ((rd_T112 t105 x10_1).f0), .int .i64 ((rd_T112 t105 x10_1).f1), .int .i64 ((rd_T112 t105 x10_1).f2)], .int .u32 a0] rfl (by (try simp only [List.map_toArray, List.map_cons, List.map_nil]); first | done | rfl | (simp only [List.length_drop, List.length_take]; rfl)) ?_; (with_reducible refine (call_row_number.calls ((rd_T112 t105 x10_1).f0) ((rd_T112 t105 x10_1).f1) ((rd_T112 t105 x10_1).f2) a0 t110 t111 _ A10.out).mono ?_); rintro e w13 ⟨rfl, hb⟩; refine ⟨_, rfl, ?_⟩; have n0_ := Aside0.mk (Kd.R_below (by (with_reducible repeat (first | apply Kd.R_alloc | apply Kd.R_drewN | apply Kd.R_drew)); exact (Kd.R_mono (Kd.R_far (p := ⟨gb109, 2, none⟩) (Kd.R_far (p := ⟨gb109, 1, none⟩) (Kd.R_far (p := ⟨gb109, 0, none⟩) (Kd.R_mono HO_8.out (fun k_ hk => (⟨hk, hk.2⟩ : _ ∧ k_ ≠ gb109))) (fun _ hk => hk.2) (.string ((rd_T112 t105 x10_1).f0))) (fun _ hk => hk.2) (.int .i64 ((rd_T112 t105 x10_1).f1))) (fun _ hk => hk.2) (.int .i64 ((rd_T112 t105 x10_1).f2))) (fun _ h_ => h_.1))) hb); have n1_ := Aside0.mk (blk_below (g := gb109) (o := .cells #[.string ((rd_T112 t105 x10_1).f0), .int .i64 ((rd_T112 t105 x10_1).f1), .int .i64 ((rd_T112 t105 x10_1).f2)] 112 (0, 0)) (by (with_reducible repeat (first | refine blk_drewN ?_ _ | refine blk_drew ?_ | refine blk_alloc ?_ _)); refine blk_put (cs := #[.string ((rd_T112 t105 x10_1).f0), .int .i64 ((rd_T112 t105 x10_1).f1), .int .i64 0]) ?_ 2 _ rfl; (with_reducible repeat (first | refine blk_drewN ?_ _ | refine blk_drew ?_ | refine blk_alloc ?_ _)); refine blk_put (cs := #[.string ((rd_T112 t105 x10_1).f0), .int .i64 0, .int .i64 0]) ?_ 1 _ rfl; (with_reducible repeat (first | refine blk_drewN ?_ _ | refine blk_drew ?_ | refine blk_alloc ?_ _)); refine blk_put (cs := #[.string (⟨#[]⟩ : ByteArray), .int .i64 0, .int .i64 0]) ?_ 0 _ rfl; (with_reducible repeat (first | refine blk_drewN ?_ _ | refine blk_drew ?_ | refine blk_alloc ?_ _)); exact BK109.out) hb); have n2_ := Aside0.mk (below_step (by repeat (first | (with_reducible first | exact HB.out | apply below_alloc | apply pw_below_drewN | apply below_drew1 | refine below_set ?_ GE109.out) | exact HB.out)) hb); clear HO_8; clear BK109; clear HB; have HO_8 := n0_; have BK109 := n1_; have HB := n2_; clear n0_ n1_ n2_; (try clear hb); (try clear hb2); (try clear hk); (try clear hi)))
              go_ret2
              exact ⟨by first | rfl | (simp [errW_none, errW_some] <;> rfl) | (simp [*, errW_none, errW_some] <;> rfl), by repeat (first | (with_reducible first | exact HB.out | apply below_alloc | apply pw_below_drewN | apply below_drew1 | refine below_set ?_ GE109.out) | exact HB.out)⟩
            · rw [if_neg c9] at H
              have c9b0 : (((rd_T112 t105 x10_1).f0).toList == a1.toList) = false := beq_eq_false_iff_ne.mpr c9
              have c9b1 : (((rd_T112 t105 x10_1).f0).toList != a1.toList) = true := bne_iff_ne.mpr c9
              have H' := Aside0.mk H
              clear H
              have p108 : 0 ≤ (x10_1 : Int) := of_decide_eq_true (by first | (with_reducible assumption) | assumption)
              have q108 : x10_1 < (t105.length : Int) := of_decide_eq_true (by first | (with_reducible assumption) | assumption)
              obtain ⟨ad108, e108, hx108_0, hx108_1, hx108_2⟩ := at_T112 (Kd.R_reads' HO_8.out).2.2 x10_1 p108 q108
              cases e108
              replace p108 := eq_true p108
              replace q108 := eq_true q108
              go_wp2_with (first | ((with_reducible refine gate_dst (N := 7) rfl ?_); refine box_event ?hg (N := 7) ?hd (cs := #[.string (⟨#[]⟩ : ByteArray), .int .i64 0, .int .i64 0]) (t := 112) ?hr ?_; (case hd => rfl); (case hg => rfl); (case hr => first | (go_simp; done) | (go_simp; rfl)); intro gb109 hg w14 hbox hb; have n0_ := Aside0.mk (Kd.R_below (Kd.R_elderB (by (with_reducible repeat (first | apply Kd.R_alloc | apply Kd.R_drewN | apply Kd.R_drew)); exact HO_8.out) gb109 (Nat.le_of_eq hg.symm)) hb); have n1_ := Aside0.mk (below_step (by repeat (first | (with_reducible first | exact HB.out | apply below_alloc | apply pw_below_drewN | apply below_drew1) | exact HB.out)) hb); have n2_ := Aside0.mk (hbox); have n3_ := Aside0.mk ((by rw [hg]; exact (below_size (by repeat (first | (with_reducible first | exact HB.out | apply below_alloc | apply pw_below_drewN | apply below_drew1) | exact HB.out))) : w.heap.size ≤ gb109)); have n4_ := Aside0.mk ((by rw [hg]; exact (below_size (by repeat (first | (with_reducible first | exact HB.out | apply below_alloc | apply pw_below_drewN | apply below_drew1) | exact HB.out))) : w.heap.size ≤ gb109)); clear HO_8; clear HB; have HO_8 := n0_; have HB := n1_; have BK109 := n2_; have GW109 := n3_; have GE109 := n4_; clear n0_ n1_ n2_ n3_ n4_; clear hb hbox hg; have hcz15_0 : w14.cell? ⟨gb109, 0, none⟩ = some (.string (⟨#[]⟩ : ByteArray)) := (blk_cell BK109.out 0).trans rfl; have hcz15_1 : w14.cell? ⟨gb109, 1, none⟩ = some (.int .i64 0) := (blk_cell BK109.out 1).trans rfl; have hcz15_2 : w14.cell? ⟨gb109, 2, none⟩ = some (.int .i64 0) := (blk_cell BK109.out 2).trans rfl; have hfz15_0 := blk_frozen BK109.out 0; have hfz15_1 := blk_frozen BK109.out 1; have hfz15_2 := blk_frozen BK109.out 2))
              go_roundg k1
              case measure => have := HK1.out; omega
              case rel => exact ⟨(wrap64 (x10_1 + 1)), (by first | rfl | (simp; done) | (simp [*]; done)), H', ⟨by have := HK1.out; omega⟩, ⟨by (with_reducible repeat (first | apply Kd.R_alloc | apply Kd.R_drewN | apply Kd.R_drew)); exact Kd.R_mono (Kd.R_far (p := ⟨gb109, 2, none⟩) (Kd.R_far (p := ⟨gb109, 1, none⟩) (Kd.R_far (p := ⟨gb109, 0, none⟩) (Kd.R_mono HO_8.out (fun k_ hk => (⟨hk, hk.2⟩ : _ ∧ k_ ≠ gb109))) (fun _ hk => hk.2) (.string ((rd_T112 t105 x10_1).f0))) (fun _ hk => hk.2) (.int .i64 ((rd_T112 t105 x10_1).f1))) (fun _ hk => hk.2) (.int .i64 ((rd_T112 t105 x10_1).f2))) (fun _ hk => trivial)⟩, ⟨by repeat (first | (with_reducible first | exact HB.out | apply below_alloc | apply pw_below_drewN | apply below_drew1 | refine below_set ?_ GE109.out) | exact HB.out)⟩⟩
          · rw [if_neg c8] at H
            exact absurd H (by simp)
        · rw [if_neg c7] at H
          exact absurd H (by simp)
      · rw [if_neg c6] at H
        have c6b0 : decide (x10_1 < (t105.length : Int)) = false := decide_eq_false c6
        clear c6
        simp only [Option.some.injEq, Prod.mk.injEq] at H
        obtain ⟨rfl, rfl⟩ := H
        go_wp2
        go_ret2
        exact ⟨by first | rfl | (simp [errW_none, errW_some] <;> rfl) | (simp [*, errW_none, errW_some] <;> rfl), by repeat (first | (with_reducible first | exact HB.out | apply below_alloc | apply pw_below_drewN | apply below_drew1) | exact HB.out)⟩

/-! ### call_Name: function 31 -/
def call_Name.l0 : Nat → Int → Int → List (S112) → Int → Int → Option (ByteArray × Bool)
  | 0, _, _, _, _, _ => none
  | k + 1, x0, x1, x10, x11, x12 => if x12 < x11 then (if 0 ≤ x12 then (if x12 < (x10.length : Int) then ((call_row_number.f ((rd_T112 x10 x12).f0) ((rd_T112 x10 x12).f1) ((rd_T112 x10 x12).f2) x0).bind fun bt117 => (if bt117.2 = true then (if bt117.1 = x1 then (some ((rd_T112 x10 x12).f0, true)) else (call_Name.l0 k x0 x1 x10 x11 (wrap64 (x12 + 1)))) else (call_Name.l0 k x0 x1 x10 x11 (wrap64 (x12 + 1))))) else (none)) else (none)) else (some ((⟨#[]⟩ : ByteArray), false))
def call_Name.f (k : Nat) (a0 : Int) (a1 : Int) : Option (ByteArray × Bool) := (call_table.f).bind fun t112 => (call_Name.l0 k a0 a1 t112 (t112.length : Int) 0)
theorem call_Name.mono_l : ∀ k, (∀ y0 y1 y2 y3 y4, LeO (call_Name.l0 k y0 y1 y2 y3 y4) (call_Name.l0 (k + 1) y0 y1 y2 y3 y4))
  | 0 => fun _ _ _ _ _ r h => by simp [call_Name.l0] at h
  | k + 1 => by
    have ih0 := call_Name.mono_l k
    · intro y0 y1 y2 y3 y4
      unfold call_Name.l0
      repeat' first
      | (with_reducible exact ih0 _ _ _ _ _)
      | (with_reducible exact LeO.refl _)
      | (with_reducible exact LeO.none _)
      | (with_reducible refine LeO.ite ?_ ?_)
      | (with_reducible refine LeO.bind ?_ (fun _ => ?_))
      | exact ih0 _ _ _ _ _
      | exact LeO.none _
      | refine LeO.ite ?_ ?_
      | refine LeO.bind ?_ (fun _ => ?_)
theorem call_Name.mono : ∀ a0 a1 k, LeO (call_Name.f k a0 a1) (call_Name.f (k + 1) a0 a1) := by
  intro a0 a1 k
  have ih0 := call_Name.mono_l k
  unfold call_Name.f
  repeat' first
      | (with_reducible exact ih0 _ _ _ _ _)
      | (with_reducible exact LeO.refl _)
      | (with_reducible exact LeO.none _)
      | (with_reducible refine LeO.ite ?_ ?_)
      | (with_reducible refine LeO.bind ?_ (fun _ => ?_))
      | exact ih0 _ _ _ _ _
      | exact LeO.none _
      | refine LeO.ite ?_ ?_
      | refine LeO.bind ?_ (fun _ => ?_)
set_option maxHeartbeats 8000000 in
set_option maxRecDepth 100000 in
theorem call_Name.calls (k : Nat) (a0 : Int) (a1 : Int) (r1 : ByteArray) (r2 : Bool) (w : World) (h : call_Name.f k a0 a1 = some (r1, r2)) :
    Calls Try.prog 31 #[.int .u32 a0, .int .u32 a1] w fun e w' => e = .returned (.tuple #[.string r1, .bool r2]) ∧ Below w.heap.size w w' := by
  have hu112 := Try.underlying112
  have HB := Aside0.mk (Below.refl w.heap.size w)
  have H : ((call_table.f).bind fun t112 => (call_Name.l0 k a0 a1 t112 (t112.length : Int) 0)) = some (r1, r2) := h
  clear h
  replace H := Option.bind_eq_some_iff.mp H
  obtain ⟨t112, A30, H⟩ := H
  replace H : (call_Name.l0 k a0 a1 t112 (t112.length : Int) 0) = some (r1, r2) := H
  have A3 := Aside0.mk A30
  clear A30
  have H' := Aside0.mk H
  clear H
  go_enter Try.func31, Try.ntmps31
  go_wp2_with (first | ((with_reducible refine gate_callee (f := 80) rfl ?_); refine goesL_ (some 10) rfl rfl Try.func80 (by kernel_rfl) rfl #[] rfl (by (try simp only [List.map_toArray, List.map_cons, List.map_nil]); first | done | rfl | (simp only [List.length_drop, List.length_take]; rfl)) ?_; (with_reducible refine (call_table.calls  t112 _ A3.out).mono ?_); rintro e w4 ⟨v113, rfl, ho0, hb⟩; refine ⟨_, rfl, ?_⟩; have n0_ := Aside0.mk (Kd.R_lower ho0 (below_size (by repeat (first | (with_reducible first | exact HB.out | apply below_alloc | apply pw_below_drewN | apply below_drew1) | exact HB.out)))); have n1_ := Aside0.mk (below_step (by repeat (first | (with_reducible first | exact HB.out | apply below_alloc | apply pw_below_drewN | apply below_drew1) | exact HB.out)) hb); clear HB; have HO114 := n0_; have HB := n1_; clear n0_ n1_; (try clear hb); (try clear hb2); (try clear hk); (try clear hi); (try clear ho0); obtain ⟨Ao5, co5, eo5⟩ := Kd.R_slice HO114.out; subst eo5))
  go_loopg [12] k (fun kq v12 w' => ∃ (x12_1 : Int), v12 = .int .i64 x12_1 ∧ Aside0 (call_Name.l0 kq a0 a1 t112 (t112.length : Int) x12_1 = some (r1, r2)) ∧ Aside0 (kq ≤ k) ∧ Aside0 (Kd.R k112 112 w' w.heap.size (fun _ => True) (.slice Ao5 t112.length co5) t112) ∧ Aside0 (Below w.heap.size w w'))
  case atStart => exact ⟨(0), (by first | rfl | (simp; done) | (simp [*]; done)), H', ⟨Nat.le_refl _⟩, ⟨by (with_reducible repeat (first | apply Kd.R_alloc | apply Kd.R_drewN | apply Kd.R_drew)); exact HO114.out⟩, ⟨by repeat (first | (with_reducible first | exact HB.out | apply below_alloc | apply pw_below_drewN | apply below_drew1) | exact HB.out)⟩⟩
  case round =>
    clear H'
    try clear p2
    try clear c3
    obtain ⟨x12_1, rfl, HA, HK1, HO_10, HB⟩ := hrel
    cases gk with
    | zero => exact absurd HA.out (by simp [call_Name.l0])
    | succ k1 =>
      have H := HA.out
      clear HA
      simp only [call_Name.l0] at H
      by_cases c6 : x12_1 < (t112.length : Int)
      · rw [if_pos c6] at H
        have c6b0 : decide (x12_1 < (t112.length : Int)) = true := decide_eq_true c6
        clear c6
        by_cases c7 : 0 ≤ x12_1
        · rw [if_pos c7] at H
          have c7b0 : decide (0 ≤ x12_1) = true := decide_eq_true c7
          clear c7
          by_cases c8 : x12_1 < (t112.length : Int)
          · rw [if_pos c8] at H
            have c8b0 : decide (x12_1 < (t112.length : Int)) = true := decide_eq_true c8
            clear c8
            replace H := Option.bind_eq_some_iff.mp H
            obtain ⟨⟨t117, t118⟩, A90, H⟩ := H
            replace H : (if t118 = true then (if t117 = a1 then (some ((rd_T112 t112 x12_1).f0, true)) else (call_Name.l0 k1 a0 a1 t112 (t112.length : Int) (wrap64 (x12_1 + 1)))) else (call_Name.l0 k1 a0 a1 t112 (t112.length : Int) (wrap64 (x12_1 + 1)))) = some (r1, r2) := H
            have A9 := Aside0.mk A90
            clear A90
            by_cases c10 : t118 = true
            · subst c10
              have H1 : (if t117 = a1 then (some ((rd_T112 t112 x12_1).f0, true)) else (call_Name.l0 k1 a0 a1 t112 (t112.length : Int) (wrap64 (x12_1 + 1)))) = some (r1, r2) := by rw [if_pos rfl] at H; exact H
              clear H
              have H := H1
              clear H1
              by_cases c11 : t117 = a1
              · rw [if_pos c11] at H
                have c11b0 : (t117 == a1) = true := beq_iff_eq.mpr c11
                have c11b1 : (t117 != a1) = false := bne_eq_false_iff_eq.mpr c11
                clear c11
                simp only [Option.some.injEq, Prod.mk.injEq] at H
                obtain ⟨rfl, rfl⟩ := H
                have p115 : 0 ≤ (x12_1 : Int) := of_decide_eq_true (by first | (with_reducible assumption) | assumption)
                have q115 : x12_1 < (t112.length : Int) := of_decide_eq_true (by first | (with_reducible assumption) | assumption)
                obtain ⟨ad115, e115, hx115_0, hx115_1, hx115_2⟩ := at_T112 (Kd.R_reads' HO_10.out).2.2 x12_1 p115 q115
                cases e115
                replace p115 := eq_true p115
                replace q115 := eq_true q115
                go_wp2_with (first | ((with_reducible refine gate_dst (N := 7) rfl ?_); refine box_event ?hg (N := 7) ?hd (cs := #[.string (⟨#[]⟩ : ByteArray), .int .i64 0, .int .i64 0]) (t := 112) ?hr ?_; (case hd => rfl); (case hg => rfl); (case hr => first | (go_simp; done) | (go_simp; rfl)); intro gb116 hg w12 hbox hb; have n0_ := Aside0.mk (Kd.R_below (Kd.R_elderB (by (with_reducible repeat (first | apply Kd.R_alloc | apply Kd.R_drewN | apply Kd.R_drew)); exact HO_10.out) gb116 (Nat.le_of_eq hg.symm)) hb); have n1_ := Aside0.mk (below_step (by repeat (first | (with_reducible first | exact HB.out | apply below_alloc | apply pw_below_drewN | apply below_drew1) | exact HB.out)) hb); have n2_ := Aside0.mk (hbox); have n3_ := Aside0.mk ((by rw [hg]; exact (below_size (by repeat (first | (with_reducible first | exact HB.out | apply below_alloc | apply pw_below_drewN | apply below_drew1) | exact HB.out))) : w.heap.size ≤ gb116)); have n4_ := Aside0.mk ((by rw [hg]; exact (below_size (by repeat (first | (with_reducible first | exact HB.out | apply below_alloc | apply pw_below_drewN | apply below_drew1) | exact HB.out))) : w.heap.size ≤ gb116)); clear HO_10; clear HB; have HO_10 := n0_; have HB := n1_; have BK116 := n2_; have GW116 := n3_; have GE116 := n4_; clear n0_ n1_ n2_ n3_ n4_; clear hb hbox hg; have hcz13_0 : w12.cell? ⟨gb116, 0, none⟩ = some (.string (⟨#[]⟩ : ByteArray)) := (blk_cell BK116.out 0).trans rfl; have hcz13_1 : w12.cell? ⟨gb116, 1, none⟩ = some (.int .i64 0) := (blk_cell BK116.out 1).trans rfl; have hcz13_2 : w12.cell? ⟨gb116, 2, none⟩ = some (.int .i64 0) := (blk_cell BK116.out 2).trans rfl; have hfz13_0 := blk_frozen BK116.out 0; have hfz13_1 := blk_frozen BK116.out 1; have hfz13_2 := blk_frozen BK116.out 2) | ((with_reducible refine gate_callee (f := 81) rfl ?_); refine goesL_ (some 19) rfl rfl Try.func81 (by kernel_rfl) rfl #[.agg #[.string ((rd_T112 t112 x12_1).f0), .int .i64 ((rd_T112 t112 x12_1).f1), .int .i64 ((rd_T112 t112 x12_1).f2)], .int .u32 a0] rfl (by (try simp only [List.map_toArray, List.map_cons, List.map_nil]); first | done | rfl | (simp only [List.length_drop, List.length_take]; rfl)) ?_; (with_reducible refine (call_row_number.calls ((rd_T112 t112 x12_1).f0) ((rd_T112 t112 x12_1).f1) ((rd_T112 t112 x12_1).f2) a0 t117 true _ A9.out).mono ?_); rintro e w14 ⟨rfl, hb⟩; refine ⟨_, rfl, ?_⟩; have n0_ := Aside0.mk (Kd.R_below (by (with_reducible repeat (first | apply Kd.R_alloc | apply Kd.R_drewN | apply Kd.R_drew)); exact (Kd.R_mono (Kd.R_far (p := ⟨gb116, 2, none⟩) (Kd.R_far (p := ⟨gb116, 1, none⟩) (Kd.R_far (p := ⟨gb116, 0, none⟩) (Kd.R_mono HO_10.out (fun k_ hk => (⟨hk, hk.2⟩ : _ ∧ k_ ≠ gb116))) (fun _ hk => hk.2) (.string ((rd_T112 t112 x12_1).f0))) (fun _ hk => hk.2) (.int .i64 ((rd_T112 t112 x12_1).f1))) (fun _ hk => hk.2) (.int .i64 ((rd_T112 t112 x12_1).f2))) (fun _ h_ => h_.1))) hb); have n1_ := Aside0.mk (blk_below (g := gb116) (o := .cells #[.string ((rd_T112 t112 x12_1).f0), .int .i64 ((rd_T112 t112 x12_1).f1), .int .i64 ((rd_T112 t112 x12_1).f2)] 112 (0, 0)) (by (with_reducible repeat (first | refine blk_drewN ?_ _ | refine blk_drew ?_ | refine blk_alloc ?_ _)); refine blk_put (cs := #[.string ((rd_T112 t112 x12_1).f0), .int .i64 ((rd_T112 t112 x12_1).f1), .int .i64 0]) ?_ 2 _ rfl; (with_reducible repeat (first | refine blk_drewN ?_ _ | refine blk_drew ?_ | refine blk_alloc ?_ _)); refine blk_put (cs := #[.string ((rd_T112 t112 x12_1).f0), .int .i64 0, .int .i64 0]) ?_ 1 _ rfl; (with_reducible repeat (first | refine blk_drewN ?_ _ | refine blk_drew ?_ | refine blk_alloc ?_ _)); refine blk_put (cs := #[.string (⟨#[]⟩ : ByteArray), .int .i64 0, .int .i64 0]) ?_ 0 _ rfl; (with_reducible repeat (first | refine blk_drewN ?_ _ | refine blk_drew ?_ | refine blk_alloc ?_ _)); exact BK116.out) hb); have n2_ := Aside0.mk (below_step (by repeat (first | (with_reducible first | exact HB.out | apply below_alloc | apply pw_below_drewN | apply below_drew1 | refine below_set ?_ GE116.out) | exact HB.out)) hb); clear HO_10; clear BK116; clear HB; have HO_10 := n0_; have BK116 := n1_; have HB := n2_; clear n0_ n1_ n2_; (try clear hb); (try clear hb2); (try clear hk); (try clear hi); have hcz15_0 : w14.cell? ⟨gb116, 0, none⟩ = some (.string ((rd_T112 t112 x12_1).f0)) := (blk_cell BK116.out 0).trans rfl; have hcz15_1 : w14.cell? ⟨gb116, 1, none⟩ = some (.int .i64 ((rd_T112 t112 x12_1).f1)) := (blk_cell BK116.out 1).trans rfl; have hcz15_2 : w14.cell? ⟨gb116, 2, none⟩ = some (.int .i64 ((rd_T112 t112 x12_1).f2)) := (blk_cell BK116.out 2).trans rfl; have hfz15_0 := blk_frozen BK116.out 0; have hfz15_1 := blk_frozen BK116.out 1; have hfz15_2 := blk_frozen BK116.out 2))
                go_ret2
                exact ⟨by first | rfl | (simp [errW_none, errW_some] <;> rfl) | (simp [*, errW_none, errW_some] <;> rfl), by repeat (first | (with_reducible first | exact HB.out | apply below_alloc | apply pw_below_drewN | apply below_drew1 | refine below_set ?_ GE116.out) | exact HB.out)⟩
              · rw [if_neg c11] at H
                have c11b0 : (t117 == a1) = false := beq_eq_false_iff_ne.mpr c11
                have c11b1 : (t117 != a1) = true := bne_iff_ne.mpr c11
                have H' := Aside0.mk H
                clear H
                have p115 : 0 ≤ (x12_1 : Int) := of_decide_eq_true (by first | (with_reducible assumption) | assumption)
                have q115 : x12_1 < (t112.length : Int) := of_decide_eq_true (by first | (with_reducible assumption) | assumption)
                obtain ⟨ad115, e115, hx115_0, hx115_1, hx115_2⟩ := at_T112 (Kd.R_reads' HO_10.out).2.2 x12_1 p115 q115
                cases e115
                replace p115 := eq_true p115
                replace q115 := eq_true q115
                go_wp2_with (first | ((with_reducible refine gate_dst (N := 7) rfl ?_); refine box_event ?hg (N := 7) ?hd (cs := #[.string (⟨#[]⟩ : ByteArray), .int .i64 0, .int .i64 0]) (t := 112) ?hr ?_; (case hd => rfl); (case hg => rfl); (case hr => first | (go_simp; done) | (go_simp; rfl)); intro gb116 hg w16 hbox hb; have n0_ := Aside0.mk (Kd.R_below (Kd.R_elderB (by (with_reducible repeat (first | apply Kd.R_alloc | apply Kd.R_drewN | apply Kd.R_drew)); exact HO_10.out) gb116 (Nat.le_of_eq hg.symm)) hb); have n1_ := Aside0.mk (below_step (by repeat (first | (with_reducible first | exact HB.out | apply below_alloc | apply pw_below_drewN | apply below_drew1) | exact HB.out)) hb); have n2_ := Aside0.mk (hbox); have n3_ := Aside0.mk ((by rw [hg]; exact (below_size (by repeat (first | (with_reducible first | exact HB.out | apply below_alloc | apply pw_below_drewN | apply below_drew1) | exact HB.out))) : w.heap.size ≤ gb116)); have n4_ := Aside0.mk ((by rw [hg]; exact (below_size (by repeat (first | (with_reducible first | exact HB.out | apply below_alloc | apply pw_below_drewN | apply below_drew1) | exact HB.out))) : w.heap.size ≤ gb116)); clear HO_10; clear HB; have HO_10 := n0_; have HB := n1_; have BK116 := n2_; have GW116 := n3_; have GE116 := n4_; clear n0_ n1_ n2_ n3_ n4_; clear hb hbox hg; have hcz17_0 : w16.cell? ⟨gb116, 0, none⟩ = some (.string (⟨#[]⟩ : ByteArray)) := (blk_cell BK116.out 0).trans rfl; have hcz17_1 : w16.cell? ⟨gb116, 1, none⟩ = some (.int .i64 0) := (blk_cell BK116.out 1).trans rfl; have hcz17_2 : w16.cell? ⟨gb116, 2, none⟩ = some (.int .i64 0) := (blk_cell BK116.out 2).trans rfl; have hfz17_0 := blk_frozen BK116.out 0; have hfz17_1 := blk_frozen BK116.out 1; have hfz17_2 := blk_frozen BK116.out 2) | ((with_reducible refine gate_callee (f := 81) rfl ?_); refine goesL_ (some 19) rfl rfl Try.func81 (by kernel_rfl) rfl #[.agg #[.string ((rd_T112 t112 x12_1).f0), .int .i64 ((rd_T112 t112 x12_1).f1), .int .i64 ((rd_T112 t112 x12_1).f2)], .int .u32 a0] rfl (by (try simp only [List.map_toArray, List.map_cons, List.map_nil]); first | done | rfl | (simp only [List.length_drop, List.length_take]; rfl)) ?_; (with_reducible refine (call_row_number.calls ((rd_T112 t112 x12_1).f0) ((rd_T112 t112 x12_1).f1) ((rd_T112 t112 x12_1).f2) a0 t117 true _ A9.out).mono ?_); rintro e w18 ⟨rfl, hb⟩; refine ⟨_, rfl, ?_⟩; have n0_ := Aside0.mk (Kd.R_below (by (with_reducible repeat (first | apply Kd.R_alloc | apply Kd.R_drewN | apply Kd.R_drew)); exact (Kd.R_mono (Kd.R_far (p := ⟨gb116, 2, none⟩) (Kd.R_far (p := ⟨gb116, 1, none⟩) (Kd.R_far (p := ⟨gb116, 0, none⟩) (Kd.R_mono HO_10.out (fun k_ hk => (⟨hk, hk.2⟩ : _ ∧ k_ ≠ gb116))) (fun _ hk => hk.2) (.string ((rd_T112 t112 x12_1).f0))) (fun _ hk => hk.2) (.int .i64 ((rd_T112 t112 x12_1).f1))) (fun _ hk => hk.2) (.int .i64 ((rd_T112 t112 x12_1).f2))) (fun _ h_ => h_.1))) hb); have n1_ := Aside0.mk (blk_below (g := gb116) (o := .cells #[.string ((rd_T112 t112 x12_1).f0), .int .i64 ((rd_T112 t112 x12_1).f1), .int .i64 ((rd_T112 t112 x12_1).f2)] 112 (0, 0)) (by (with_reducible repeat (first | refine blk_drewN ?_ _ | refine blk_drew ?_ | refine blk_alloc ?_ _)); refine blk_put (cs := #[.string ((rd_T112 t112 x12_1).f0), .int .i64 ((rd_T112 t112 x12_1).f1), .int .i64 0]) ?_ 2 _ rfl; (with_reducible repeat (first | refine blk_drewN ?_ _ | refine blk_drew ?_ | refine blk_alloc ?_ _)); refine blk_put (cs := #[.string ((rd_T112 t112 x12_1).f0), .int .i64 0, .int .i64 0]) ?_ 1 _ rfl; (with_reducible repeat (first | refine blk_drewN ?_ _ | refine blk_drew ?_ | refine blk_alloc ?_ _)); refine blk_put (cs := #[.string (⟨#[]⟩ : ByteArray), .int .i64 0, .int .i64 0]) ?_ 0 _ rfl; (with_reducible repeat (first | refine blk_drewN ?_ _ | refine blk_drew ?_ | refine blk_alloc ?_ _)); exact BK116.out) hb); have n2_ := Aside0.mk (below_step (by repeat (first | (with_reducible first | exact HB.out | apply below_alloc | apply pw_below_drewN | apply below_drew1 | refine below_set ?_ GE116.out) | exact HB.out)) hb); clear HO_10; clear BK116; clear HB; have HO_10 := n0_; have BK116 := n1_; have HB := n2_; clear n0_ n1_ n2_; (try clear hb); (try clear hb2); (try clear hk); (try clear hi)))
                go_roundg k1
                case measure => have := HK1.out; omega
                case rel => exact ⟨(wrap64 (x12_1 + 1)), (by first | rfl | (simp; done) | (simp [*]; done)), H', ⟨by have := HK1.out; omega⟩, ⟨by (with_reducible repeat (first | apply Kd.R_alloc | apply Kd.R_drewN | apply Kd.R_drew)); exact Kd.R_mono HO_10.out (fun _ hk => trivial)⟩, ⟨by repeat (first | (with_reducible first | exact HB.out | apply below_alloc | apply pw_below_drewN | apply below_drew1 | refine below_set ?_ GE116.out) | exact HB.out)⟩⟩
            · replace c10 := Bool.eq_false_iff.mpr c10
              subst c10
              have H1 : (call_Name.l0 k1 a0 a1 t112 (t112.length : Int) (wrap64 (x12_1 + 1))) = some (r1, r2) := by rw [if_neg (show ¬ (false = true) by decide)] at H; exact H
              clear H
              have H := H1
              clear H1
              have H' := Aside0.mk H
              clear H
              have p115 : 0 ≤ (x12_1 : Int) := of_decide_eq_true (by first | (with_reducible assumption) | assumption)
              have q115 : x12_1 < (t112.length : Int) := of_decide_eq_true (by first | (with_reducible assumption) | assumption)
              obtain ⟨ad115, e115, hx115_0, hx115_1, hx115_2⟩ := at_T112 (Kd.R_reads' HO_10.out).2.2 x12_1 p115 q115
              cases e115
              replace p115 := eq_true p115
              replace q115 := eq_true q115
              go_wp2_with (first | ((with_reducible refine gate_dst (N := 7) rfl ?_); refine box_event ?hg (N := 7) ?hd (cs := #[.string (⟨#[]⟩ : ByteArray), .int .i64 0, .int .i64 0]) (t := 112) ?hr ?_; (case hd => rfl); (case hg => rfl); (case hr => first | (go_simp; done) | (go_simp; rfl)); intro gb116 hg w19 hbox hb; have n0_ := Aside0.mk (Kd.R_below (Kd.R_elderB (by (with_reducible repeat (first | apply Kd.R_alloc | apply Kd.R_drewN | apply Kd.R_drew)); exact HO_10.out) gb116 (Nat.le_of_eq hg.symm)) hb); have n1_ := Aside0.mk (below_step (by repeat (first | (with_reducible first | exact HB.out | apply below_alloc | apply pw_below_drewN | apply below_drew1) | exact HB.out)) hb); have n2_ := Aside0.mk (hbox); have n3_ := Aside0.mk ((by rw [hg]; exact (below_size (by repeat (first | (with_reducible first | exact HB.out | apply below_alloc | apply pw_below_drewN | apply below_drew1) | exact HB.out))) : w.heap.size ≤ gb116)); have n4_ := Aside0.mk ((by rw [hg]; exact (below_size (by repeat (first | (with_reducible first | exact HB.out | apply below_alloc | apply pw_below_drewN | apply below_drew1) | exact HB.out))) : w.heap.size ≤ gb116)); clear HO_10; clear HB; have HO_10 := n0_; have HB := n1_; have BK116 := n2_; have GW116 := n3_; have GE116 := n4_; clear n0_ n1_ n2_ n3_ n4_; clear hb hbox hg; have hcz20_0 : w19.cell? ⟨gb116, 0, none⟩ = some (.string (⟨#[]⟩ : ByteArray)) := (blk_cell BK116.out 0).trans rfl; have hcz20_1 : w19.cell? ⟨gb116, 1, none⟩ = some (.int .i64 0) := (blk_cell BK116.out 1).trans rfl; have hcz20_2 : w19.cell? ⟨gb116, 2, none⟩ = some (.int .i64 0) := (blk_cell BK116.out 2).trans rfl; have hfz20_0 := blk_frozen BK116.out 0; have hfz20_1 := blk_frozen BK116.out 1; have hfz20_2 := blk_frozen BK116.out 2) | ((with_reducible refine gate_callee (f := 81) rfl ?_); refine goesL_ (some 19) rfl rfl Try.func81 (by kernel_rfl) rfl #[.agg #[.string ((rd_T112 t112 x12_1).f0), .int .i64 ((rd_T112 t112 x12_1).f1), .int .i64 ((rd_T112 t112 x12_1).f2)], .int .u32 a0] rfl (by (try simp only [List.map_toArray, List.map_cons, List.map_nil]); first | done | rfl | (simp only [List.length_drop, List.length_take]; rfl)) ?_; (with_reducible refine (call_row_number.calls ((rd_T112 t112 x12_1).f0) ((rd_T112 t112 x12_1).f1) ((rd_T112 t112 x12_1).f2) a0 t117 false _ A9.out).mono ?_); rintro e w21 ⟨rfl, hb⟩; refine ⟨_, rfl, ?_⟩; have n0_ := Aside0.mk (Kd.R_below (by (with_reducible repeat (first | apply Kd.R_alloc | apply Kd.R_drewN | apply Kd.R_drew)); exact (Kd.R_mono (Kd.R_far (p := ⟨gb116, 2, none⟩) (Kd.R_far (p := ⟨gb116, 1, none⟩) (Kd.R_far (p := ⟨gb116, 0, none⟩) (Kd.R_mono HO_10.out (fun k_ hk => (⟨hk, hk.2⟩ : _ ∧ k_ ≠ gb116))) (fun _ hk => hk.2) (.string ((rd_T112 t112 x12_1).f0))) (fun _ hk => hk.2) (.int .i64 ((rd_T112 t112 x12_1).f1))) (fun _ hk => hk.2) (.int .i64 ((rd_T112 t112 x12_1).f2))) (fun _ h_ => h_.1))) hb); have n1_ := Aside0.mk (blk_below (g := gb116) (o := .cells #[.string ((rd_T112 t112 x12_1).f0), .int .i64 ((rd_T112 t112 x12_1).f1), .int .i64 ((rd_T112 t112 x12_1).f2)] 112 (0, 0)) (by (with_reducible repeat (first | refine blk_drewN ?_ _ | refine blk_drew ?_ | refine blk_alloc ?_ _)); refine blk_put (cs := #[.string ((rd_T112 t112 x12_1).f0), .int .i64 ((rd_T112 t112 x12_1).f1), .int .i64 0]) ?_ 2 _ rfl; (with_reducible repeat (first | refine blk_drewN ?_ _ | refine blk_drew ?_ | refine blk_alloc ?_ _)); refine blk_put (cs := #[.string ((rd_T112 t112 x12_1).f0), .int .i64 0, .int .i64 0]) ?_ 1 _ rfl; (with_reducible repeat (first | refine blk_drewN ?_ _ | refine blk_drew ?_ | refine blk_alloc ?_ _)); refine blk_put (cs := #[.string (⟨#[]⟩ : ByteArray), .int .i64 0, .int .i64 0]) ?_ 0 _ rfl; (with_reducible repeat (first | refine blk_drewN ?_ _ | refine blk_drew ?_ | refine blk_alloc ?_ _)); exact BK116.out) hb); have n2_ := Aside0.mk (below_step (by repeat (first | (with_reducible first | exact HB.out | apply below_alloc | apply pw_below_drewN | apply below_drew1 | refine below_set ?_ GE116.out) | exact HB.out)) hb); clear HO_10; clear BK116; clear HB; have HO_10 := n0_; have BK116 := n1_; have HB := n2_; clear n0_ n1_ n2_; (try clear hb); (try clear hb2); (try clear hk); (try clear hi)))
              go_roundg k1
              case measure => have := HK1.out; omega
              case rel => exact ⟨(wrap64 (x12_1 + 1)), (by first | rfl | (simp; done) | (simp [*]; done)), H', ⟨by have := HK1.out; omega⟩, ⟨by (with_reducible repeat (first | apply Kd.R_alloc | apply Kd.R_drewN | apply Kd.R_drew)); exact Kd.R_mono HO_10.out (fun _ hk => trivial)⟩, ⟨by repeat (first | (with_reducible first | exact HB.out | apply below_alloc | apply pw_below_drewN | apply below_drew1 | refine below_set ?_ GE116.out) | exact HB.out)⟩⟩
          · rw [if_neg c8] at H
            exact absurd H (by simp)
        · rw [if_neg c7] at H
          exact absurd H (by simp)
      · rw [if_neg c6] at H
        have c6b0 : decide (x12_1 < (t112.length : Int)) = false := decide_eq_false c6
        clear c6
        simp only [Option.some.injEq, Prod.mk.injEq] at H
        obtain ⟨rfl, rfl⟩ := H
        go_wp2
        go_ret2
        exact ⟨by first | rfl | (simp [errW_none, errW_some] <;> rfl) | (simp [*, errW_none, errW_some] <;> rfl), by repeat (first | (with_reducible first | exact HB.out | apply below_alloc | apply pw_below_drewN | apply below_drew1) | exact HB.out)⟩

/-! ### doorwardlaw13_alive: function 32 -/
def doorwardlaw13_alive.f (k : Nat)  : Option (Bool) := (call_Nr.f k 3221225534 (⟨#[111, 112, 101, 110, 97, 116]⟩ : ByteArray)).bind fun bt119 => (if bt119.2 = true then (some (bt119.1 == 257)) else (some false))
theorem doorwardlaw13_alive.mono : ∀ k, LeO (doorwardlaw13_alive.f k ) (doorwardlaw13_alive.f (k + 1) ) := by
  intro  k
  unfold doorwardlaw13_alive.f
  repeat' first
      | (with_reducible exact call_Nr.mono _ _ _)
      | (with_reducible exact LeO.refl _)
      | (with_reducible exact LeO.none _)
      | (with_reducible refine LeO.ite ?_ ?_)
      | (with_reducible refine LeO.bind ?_ (fun _ => ?_))
      | exact call_Nr.mono _ _ _
      | exact LeO.none _
      | refine LeO.ite ?_ ?_
      | refine LeO.bind ?_ (fun _ => ?_)
set_option maxHeartbeats 8000000 in
set_option maxRecDepth 100000 in
theorem doorwardlaw13_alive.calls (k : Nat)  (r : Bool) (w : World) (h : doorwardlaw13_alive.f k  = some r) :
    Calls Try.prog 32 #[] w fun e w' => e = .returned (.bool r) ∧ Below w.heap.size w w' := by
  have HB := Aside0.mk (Below.refl w.heap.size w)
  have H : ((call_Nr.f k 3221225534 (⟨#[111, 112, 101, 110, 97, 116]⟩ : ByteArray)).bind fun bt119 => (if bt119.2 = true then (some (bt119.1 == 257)) else (some false))) = some r := h
  clear h
  replace H := Option.bind_eq_some_iff.mp H
  obtain ⟨⟨t119, t120⟩, A10, H⟩ := H
  replace H : (if t120 = true then (some (t119 == 257)) else (some false)) = some r := H
  have A1 := Aside0.mk A10
  clear A10
  by_cases c2 : t120 = true
  · subst c2
    have H1 : (some (t119 == 257)) = some r := by rw [if_pos rfl] at H; exact H
    clear H
    have H := H1
    clear H1
    obtain rfl := Option.some.inj H
    go_enter Try.func32, Try.ntmps32
    go_wp2_with (first | ((with_reducible refine gate_callee (f := 30) rfl ?_); refine goesL_ (some 4) rfl rfl Try.func30 (by kernel_rfl) rfl #[.int .u32 3221225534, .string (⟨#[111, 112, 101, 110, 97, 116]⟩ : ByteArray)] rfl (by (try simp only [List.map_toArray, List.map_cons, List.map_nil]); first | done | rfl | (simp only [List.length_drop, List.length_take]; rfl)) ?_; (with_reducible refine (call_Nr.calls k 3221225534 (⟨#[111, 112, 101, 110, 97, 116]⟩ : ByteArray) t119 true _ A1.out).mono ?_); rintro e w3 ⟨rfl, hb⟩; refine ⟨_, rfl, ?_⟩; have n0_ := Aside0.mk (below_step (by repeat (first | (with_reducible first | exact HB.out | apply below_alloc | apply pw_below_drewN | apply below_drew1) | exact HB.out)) hb); clear HB; have HB := n0_; clear n0_; (try clear hb); (try clear hb2); (try clear hk); (try clear hi)))
    go_ret
    exact ⟨by first | rfl | (simp [errW_none, errW_some] <;> rfl) | (simp [*, errW_none, errW_some] <;> rfl), by repeat (first | (with_reducible first | exact HB.out | apply below_alloc | apply pw_below_drewN | apply below_drew1) | exact HB.out)⟩
  · replace c2 := Bool.eq_false_iff.mpr c2
    subst c2
    have H1 : (some false) = some r := by rw [if_neg (show ¬ (false = true) by decide)] at H; exact H
    clear H
    have H := H1
    clear H1
    obtain rfl := Option.some.inj H
    go_enter Try.func32, Try.ntmps32
    go_wp2_with (first | ((with_reducible refine gate_callee (f := 30) rfl ?_); refine goesL_ (some 4) rfl rfl Try.func30 (by kernel_rfl) rfl #[.int .u32 3221225534, .string (⟨#[111, 112, 101, 110, 97, 116]⟩ : ByteArray)] rfl (by (try simp only [List.map_toArray, List.map_cons, List.map_nil]); first | done | rfl | (simp only [List.length_drop, List.length_take]; rfl)) ?_; (with_reducible refine (call_Nr.calls k 3221225534 (⟨#[111, 112, 101, 110, 97, 116]⟩ : ByteArray) t119 false _ A1.out).mono ?_); rintro e w4 ⟨rfl, hb⟩; refine ⟨_, rfl, ?_⟩; have n0_ := Aside0.mk (below_step (by repeat (first | (with_reducible first | exact HB.out | apply below_alloc | apply pw_below_drewN | apply below_drew1) | exact HB.out)) hb); clear HB; have HB := n0_; clear n0_; (try clear hb); (try clear hb2); (try clear hk); (try clear hi)))
    go_ret
    exact ⟨by first | rfl | (simp [errW_none, errW_some] <;> rfl) | (simp [*, errW_none, errW_some] <;> rfl), by repeat (first | (with_reducible first | exact HB.out | apply below_alloc | apply pw_below_drewN | apply below_drew1) | exact HB.out)⟩

end Go.Proofs.Ytoeklekjhaigoaa.C1
