/- What is proved: an event without some of its fields, at any set of fields that event.fields gives; no conditions. -/
import Derived.Test.YthniclbmpeklmaaEvG
import Derived.Test.YthniclbmpeklmaaEvF
import Derived.Test.YthniclbmpeklmaaWEqStruct
namespace Go.Proofs.Ythniclbmpeklmaa.Ev
open Go.RowKit Go.Proofs.YthniclbmpeklmaaW.PrintWords Go.Proofs.YthniclbmpeklmaaW.PrintLast Go.Proofs.YthniclbmpeklmaaW.PrintMore
set_option linter.unusedVariables false
set_option linter.unusedSimpArgs false
/-- What is left of a field, when those of a set are taken away. -/
def zb (f b x : Int) : Int := if bits BinOp.and IntKind.i64 f b = 0 then x else 0
def zy (f : Int) (y : Bool) : Bool := y && bits BinOp.and IntKind.i64 f 32 == 0
def fset : List Int := [0, 1, 4, 5, 9, 21, 28, 32, 33, 64, 65, 66, 70, 71]
theorem bare_any (k wk op hn hg nn ng t a u : Int) (y : Bool) (er : Int) (f : Int) (hf : f ∈ fset) (w : World) :
    Calls Try.prog 94 #[.agg (evC k wk op hn hg nn ng t a u y er), .int .i64 f] w fun e w' => e = .returned (.agg (evC k wk op (zb f 1 hn) (zb f 1 hg) (zb f 2 nn) (zb f 2 ng) (zb f 4 t) (zb f 8 a) (zb f 16 u) (zy f y) (zb f 64 er))) ∧ Below w.heap.size w w' := by
  simp only [fset, List.mem_cons, List.not_mem_nil, or_false] at hf
  rcases hf with rfl | rfl | rfl | rfl | rfl | rfl | rfl | rfl | rfl | rfl | rfl | rfl | rfl | rfl
  · simpa only [zb, zy, show bits BinOp.and IntKind.i64 0 1 = 0 from by decide, show bits BinOp.and IntKind.i64 0 2 = 0 from by decide, show bits BinOp.and IntKind.i64 0 4 = 0 from by decide, show bits BinOp.and IntKind.i64 0 8 = 0 from by decide, show bits BinOp.and IntKind.i64 0 16 = 0 from by decide, show bits BinOp.and IntKind.i64 0 32 = 0 from by decide, show bits BinOp.and IntKind.i64 0 64 = 0 from by decide, if_true, show ¬ ((1 : Int) = 0) from by decide, show ¬ ((2 : Int) = 0) from by decide, show ¬ ((4 : Int) = 0) from by decide, show ¬ ((8 : Int) = 0) from by decide, show ¬ ((16 : Int) = 0) from by decide, show ¬ ((64 : Int) = 0) from by decide, if_false, show ((32 : Int) == 0) = false from by decide, show ((0 : Int) == 0) = true from by decide, Bool.and_true, Bool.and_false] using bare_0 k wk op hn hg nn ng t a u y er w
  · simpa only [zb, zy, show bits BinOp.and IntKind.i64 1 1 = 1 from by decide, show bits BinOp.and IntKind.i64 1 2 = 0 from by decide, show bits BinOp.and IntKind.i64 1 4 = 0 from by decide, show bits BinOp.and IntKind.i64 1 8 = 0 from by decide, show bits BinOp.and IntKind.i64 1 16 = 0 from by decide, show bits BinOp.and IntKind.i64 1 32 = 0 from by decide, show bits BinOp.and IntKind.i64 1 64 = 0 from by decide, if_true, show ¬ ((1 : Int) = 0) from by decide, show ¬ ((2 : Int) = 0) from by decide, show ¬ ((4 : Int) = 0) from by decide, show ¬ ((8 : Int) = 0) from by decide, show ¬ ((16 : Int) = 0) from by decide, show ¬ ((64 : Int) = 0) from by decide, if_false, show ((32 : Int) == 0) = false from by decide, show ((0 : Int) == 0) = true from by decide, Bool.and_true, Bool.and_false] using bare_1 k wk op hn hg nn ng t a u y er w
  · simpa only [zb, zy, show bits BinOp.and IntKind.i64 4 1 = 0 from by decide, show bits BinOp.and IntKind.i64 4 2 = 0 from by decide, show bits BinOp.and IntKind.i64 4 4 = 4 from by decide, show bits BinOp.and IntKind.i64 4 8 = 0 from by decide, show bits BinOp.and IntKind.i64 4 16 = 0 from by decide, show bits BinOp.and IntKind.i64 4 32 = 0 from by decide, show bits BinOp.and IntKind.i64 4 64 = 0 from by decide, if_true, show ¬ ((1 : Int) = 0) from by decide, show ¬ ((2 : Int) = 0) from by decide, show ¬ ((4 : Int) = 0) from by decide, show ¬ ((8 : Int) = 0) from by decide, show ¬ ((16 : Int) = 0) from by decide, show ¬ ((64 : Int) = 0) from by decide, if_false, show ((32 : Int) == 0) = false from by decide, show ((0 : Int) == 0) = true from by decide, Bool.and_true, Bool.and_false] using bare_4 k wk op hn hg nn ng t a u y er w
  · simpa only [zb, zy, show bits BinOp.and IntKind.i64 5 1 = 1 from by decide, show bits BinOp.and IntKind.i64 5 2 = 0 from by decide, show bits BinOp.and IntKind.i64 5 4 = 4 from by decide, show bits BinOp.and IntKind.i64 5 8 = 0 from by decide, show bits BinOp.and IntKind.i64 5 16 = 0 from by decide, show bits BinOp.and IntKind.i64 5 32 = 0 from by decide, show bits BinOp.and IntKind.i64 5 64 = 0 from by decide, if_true, show ¬ ((1 : Int) = 0) from by decide, show ¬ ((2 : Int) = 0) from by decide, show ¬ ((4 : Int) = 0) from by decide, show ¬ ((8 : Int) = 0) from by decide, show ¬ ((16 : Int) = 0) from by decide, show ¬ ((64 : Int) = 0) from by decide, if_false, show ((32 : Int) == 0) = false from by decide, show ((0 : Int) == 0) = true from by decide, Bool.and_true, Bool.and_false] using bare_5 k wk op hn hg nn ng t a u y er w
  · simpa only [zb, zy, show bits BinOp.and IntKind.i64 9 1 = 1 from by decide, show bits BinOp.and IntKind.i64 9 2 = 0 from by decide, show bits BinOp.and IntKind.i64 9 4 = 0 from by decide, show bits BinOp.and IntKind.i64 9 8 = 8 from by decide, show bits BinOp.and IntKind.i64 9 16 = 0 from by decide, show bits BinOp.and IntKind.i64 9 32 = 0 from by decide, show bits BinOp.and IntKind.i64 9 64 = 0 from by decide, if_true, show ¬ ((1 : Int) = 0) from by decide, show ¬ ((2 : Int) = 0) from by decide, show ¬ ((4 : Int) = 0) from by decide, show ¬ ((8 : Int) = 0) from by decide, show ¬ ((16 : Int) = 0) from by decide, show ¬ ((64 : Int) = 0) from by decide, if_false, show ((32 : Int) == 0) = false from by decide, show ((0 : Int) == 0) = true from by decide, Bool.and_true, Bool.and_false] using bare_9 k wk op hn hg nn ng t a u y er w
  · simpa only [zb, zy, show bits BinOp.and IntKind.i64 21 1 = 1 from by decide, show bits BinOp.and IntKind.i64 21 2 = 0 from by decide, show bits BinOp.and IntKind.i64 21 4 = 4 from by decide, show bits BinOp.and IntKind.i64 21 8 = 0 from by decide, show bits BinOp.and IntKind.i64 21 16 = 16 from by decide, show bits BinOp.and IntKind.i64 21 32 = 0 from by decide, show bits BinOp.and IntKind.i64 21 64 = 0 from by decide, if_true, show ¬ ((1 : Int) = 0) from by decide, show ¬ ((2 : Int) = 0) from by decide, show ¬ ((4 : Int) = 0) from by decide, show ¬ ((8 : Int) = 0) from by decide, show ¬ ((16 : Int) = 0) from by decide, show ¬ ((64 : Int) = 0) from by decide, if_false, show ((32 : Int) == 0) = false from by decide, show ((0 : Int) == 0) = true from by decide, Bool.and_true, Bool.and_false] using bare_21 k wk op hn hg nn ng t a u y er w
  · simpa only [zb, zy, show bits BinOp.and IntKind.i64 28 1 = 0 from by decide, show bits BinOp.and IntKind.i64 28 2 = 0 from by decide, show bits BinOp.and IntKind.i64 28 4 = 4 from by decide, show bits BinOp.and IntKind.i64 28 8 = 8 from by decide, show bits BinOp.and IntKind.i64 28 16 = 16 from by decide, show bits BinOp.and IntKind.i64 28 32 = 0 from by decide, show bits BinOp.and IntKind.i64 28 64 = 0 from by decide, if_true, show ¬ ((1 : Int) = 0) from by decide, show ¬ ((2 : Int) = 0) from by decide, show ¬ ((4 : Int) = 0) from by decide, show ¬ ((8 : Int) = 0) from by decide, show ¬ ((16 : Int) = 0) from by decide, show ¬ ((64 : Int) = 0) from by decide, if_false, show ((32 : Int) == 0) = false from by decide, show ((0 : Int) == 0) = true from by decide, Bool.and_true, Bool.and_false] using bare_28 k wk op hn hg nn ng t a u y er w
  · simpa only [zb, zy, show bits BinOp.and IntKind.i64 32 1 = 0 from by decide, show bits BinOp.and IntKind.i64 32 2 = 0 from by decide, show bits BinOp.and IntKind.i64 32 4 = 0 from by decide, show bits BinOp.and IntKind.i64 32 8 = 0 from by decide, show bits BinOp.and IntKind.i64 32 16 = 0 from by decide, show bits BinOp.and IntKind.i64 32 32 = 32 from by decide, show bits BinOp.and IntKind.i64 32 64 = 0 from by decide, if_true, show ¬ ((1 : Int) = 0) from by decide, show ¬ ((2 : Int) = 0) from by decide, show ¬ ((4 : Int) = 0) from by decide, show ¬ ((8 : Int) = 0) from by decide, show ¬ ((16 : Int) = 0) from by decide, show ¬ ((64 : Int) = 0) from by decide, if_false, show ((32 : Int) == 0) = false from by decide, show ((0 : Int) == 0) = true from by decide, Bool.and_true, Bool.and_false] using bare_32 k wk op hn hg nn ng t a u y er w
  · simpa only [zb, zy, show bits BinOp.and IntKind.i64 33 1 = 1 from by decide, show bits BinOp.and IntKind.i64 33 2 = 0 from by decide, show bits BinOp.and IntKind.i64 33 4 = 0 from by decide, show bits BinOp.and IntKind.i64 33 8 = 0 from by decide, show bits BinOp.and IntKind.i64 33 16 = 0 from by decide, show bits BinOp.and IntKind.i64 33 32 = 32 from by decide, show bits BinOp.and IntKind.i64 33 64 = 0 from by decide, if_true, show ¬ ((1 : Int) = 0) from by decide, show ¬ ((2 : Int) = 0) from by decide, show ¬ ((4 : Int) = 0) from by decide, show ¬ ((8 : Int) = 0) from by decide, show ¬ ((16 : Int) = 0) from by decide, show ¬ ((64 : Int) = 0) from by decide, if_false, show ((32 : Int) == 0) = false from by decide, show ((0 : Int) == 0) = true from by decide, Bool.and_true, Bool.and_false] using bare_33 k wk op hn hg nn ng t a u y er w
  · simpa only [zb, zy, show bits BinOp.and IntKind.i64 64 1 = 0 from by decide, show bits BinOp.and IntKind.i64 64 2 = 0 from by decide, show bits BinOp.and IntKind.i64 64 4 = 0 from by decide, show bits BinOp.and IntKind.i64 64 8 = 0 from by decide, show bits BinOp.and IntKind.i64 64 16 = 0 from by decide, show bits BinOp.and IntKind.i64 64 32 = 0 from by decide, show bits BinOp.and IntKind.i64 64 64 = 64 from by decide, if_true, show ¬ ((1 : Int) = 0) from by decide, show ¬ ((2 : Int) = 0) from by decide, show ¬ ((4 : Int) = 0) from by decide, show ¬ ((8 : Int) = 0) from by decide, show ¬ ((16 : Int) = 0) from by decide, show ¬ ((64 : Int) = 0) from by decide, if_false, show ((32 : Int) == 0) = false from by decide, show ((0 : Int) == 0) = true from by decide, Bool.and_true, Bool.and_false] using bare_64 k wk op hn hg nn ng t a u y er w
  · simpa only [zb, zy, show bits BinOp.and IntKind.i64 65 1 = 1 from by decide, show bits BinOp.and IntKind.i64 65 2 = 0 from by decide, show bits BinOp.and IntKind.i64 65 4 = 0 from by decide, show bits BinOp.and IntKind.i64 65 8 = 0 from by decide, show bits BinOp.and IntKind.i64 65 16 = 0 from by decide, show bits BinOp.and IntKind.i64 65 32 = 0 from by decide, show bits BinOp.and IntKind.i64 65 64 = 64 from by decide, if_true, show ¬ ((1 : Int) = 0) from by decide, show ¬ ((2 : Int) = 0) from by decide, show ¬ ((4 : Int) = 0) from by decide, show ¬ ((8 : Int) = 0) from by decide, show ¬ ((16 : Int) = 0) from by decide, show ¬ ((64 : Int) = 0) from by decide, if_false, show ((32 : Int) == 0) = false from by decide, show ((0 : Int) == 0) = true from by decide, Bool.and_true, Bool.and_false] using bare_65 k wk op hn hg nn ng t a u y er w
  · simpa only [zb, zy, show bits BinOp.and IntKind.i64 66 1 = 0 from by decide, show bits BinOp.and IntKind.i64 66 2 = 2 from by decide, show bits BinOp.and IntKind.i64 66 4 = 0 from by decide, show bits BinOp.and IntKind.i64 66 8 = 0 from by decide, show bits BinOp.and IntKind.i64 66 16 = 0 from by decide, show bits BinOp.and IntKind.i64 66 32 = 0 from by decide, show bits BinOp.and IntKind.i64 66 64 = 64 from by decide, if_true, show ¬ ((1 : Int) = 0) from by decide, show ¬ ((2 : Int) = 0) from by decide, show ¬ ((4 : Int) = 0) from by decide, show ¬ ((8 : Int) = 0) from by decide, show ¬ ((16 : Int) = 0) from by decide, show ¬ ((64 : Int) = 0) from by decide, if_false, show ((32 : Int) == 0) = false from by decide, show ((0 : Int) == 0) = true from by decide, Bool.and_true, Bool.and_false] using bare_66 k wk op hn hg nn ng t a u y er w
  · simpa only [zb, zy, show bits BinOp.and IntKind.i64 70 1 = 0 from by decide, show bits BinOp.and IntKind.i64 70 2 = 2 from by decide, show bits BinOp.and IntKind.i64 70 4 = 4 from by decide, show bits BinOp.and IntKind.i64 70 8 = 0 from by decide, show bits BinOp.and IntKind.i64 70 16 = 0 from by decide, show bits BinOp.and IntKind.i64 70 32 = 0 from by decide, show bits BinOp.and IntKind.i64 70 64 = 64 from by decide, if_true, show ¬ ((1 : Int) = 0) from by decide, show ¬ ((2 : Int) = 0) from by decide, show ¬ ((4 : Int) = 0) from by decide, show ¬ ((8 : Int) = 0) from by decide, show ¬ ((16 : Int) = 0) from by decide, show ¬ ((64 : Int) = 0) from by decide, if_false, show ((32 : Int) == 0) = false from by decide, show ((0 : Int) == 0) = true from by decide, Bool.and_true, Bool.and_false] using bare_70 k wk op hn hg nn ng t a u y er w
  · simpa only [zb, zy, show bits BinOp.and IntKind.i64 71 1 = 1 from by decide, show bits BinOp.and IntKind.i64 71 2 = 2 from by decide, show bits BinOp.and IntKind.i64 71 4 = 4 from by decide, show bits BinOp.and IntKind.i64 71 8 = 0 from by decide, show bits BinOp.and IntKind.i64 71 16 = 0 from by decide, show bits BinOp.and IntKind.i64 71 32 = 0 from by decide, show bits BinOp.and IntKind.i64 71 64 = 64 from by decide, if_true, show ¬ ((1 : Int) = 0) from by decide, show ¬ ((2 : Int) = 0) from by decide, show ¬ ((4 : Int) = 0) from by decide, show ¬ ((8 : Int) = 0) from by decide, show ¬ ((16 : Int) = 0) from by decide, show ¬ ((64 : Int) = 0) from by decide, if_false, show ((32 : Int) == 0) = false from by decide, show ((0 : Int) == 0) = true from by decide, Bool.and_true, Bool.and_false] using bare_71 k wk op hn hg nn ng t a u y er w

theorem pick_in (L : List Int) (op : Int) : (pickL L op).1 = 0 ∨ (pickL L op).1 ∈ L := by
  unfold pickL
  split
  · exact .inl rfl
  · right
    simp only [List.getD_eq_getElem?_getD]
    rename_i h
    have : op.toNat < L.length := by omega
    rw [List.getElem?_eq_getElem this]
    exact List.getElem_mem _
theorem fields_in (k wk op er : Int) : (fieldsF k wk op er).1 ∈ fset := by
  unfold fieldsF
  have p2 := pick_in [0, 28, 1, 5, 9, 0, 0, 0] op
  have p3 := pick_in [0, 70, 33, 71, 65] op
  have p5 := pick_in [0, 66, 32, 66, 64, 0, 4, 4] op
  generalize pickL [0, 28, 1, 5, 9, 0, 0, 0] op = q2 at *
  generalize pickL [0, 70, 33, 71, 65] op = q3 at *
  generalize pickL [0, 66, 32, 66, 64, 0, 4, 4] op = q5 at *
  split
  · show (4 : Int) ∈ fset
    decide
  split
  · show (21 : Int) ∈ fset
    decide
  split
  · simp only [List.mem_cons, List.not_mem_nil, or_false] at p2
    rcases p2 with h | h | h | h | h | h | h | h | h <;> rw [h] <;> decide
  split
  · simp only [List.mem_cons, List.not_mem_nil, or_false] at p3
    rcases p3 with h | h | h | h | h | h <;> rw [h] <;> split <;> dsimp only <;> decide
  split
  · simp only [List.mem_cons, List.not_mem_nil, or_false] at p5
    rcases p5 with h | h | h | h | h | h | h | h | h <;> rw [h] <;> split <;> dsimp only <;> decide
  · decide
/-! '==' of events as one Bool: written by the kit's own printer. -/
theorem eqHa (d : Nat) (w : World) (x0 y0 : Int) (x1 y1 : Int) :
    (Op.equalIn (d + 2) 34 (.agg #[.int .i64 x0, .int .i64 x1]) (.agg #[.int .i64 y0, .int .i64 y1])).run Try.prog w = .ok (x0 == y0 && (x1 == y1)) w := by
  refine eqA_of Try.underlying34 (by kernel_rfl) ?_
  refine eqf_cons (by rfl) (by go_simp; rfl) (by go_simp; rfl) (by go_simp) ?_
  exact eqf_last (by rfl) (by go_simp; rfl) (by go_simp; rfl) (by go_simp)
theorem eqEv (d : Nat) (w : World) (x0 y0 : Int) (x1 y1 : Int) (x2 y2 : Int) (x3 y3 : Int) (x4 y4 : Int) (x5 y5 : Int) (x6 y6 : Int) (x7 y7 : Int) (x8 y8 : Int) (x9 y9 : Int) (x10 y10 : Bool) (x11 y11 : Int) :
    (Op.equalIn (d + 3) 54 (.agg #[.int .i64 x0, .int .i64 x1, .int .i64 x2, .int .i64 x3, .int .i64 x4, .int .i64 x5, .int .i64 x6, .int .i64 x7, .int .i64 x8, .int .i64 x9, .bool x10, .int .i64 x11]) (.agg #[.int .i64 y0, .int .i64 y1, .int .i64 y2, .int .i64 y3, .int .i64 y4, .int .i64 y5, .int .i64 y6, .int .i64 y7, .int .i64 y8, .int .i64 y9, .bool y10, .int .i64 y11])).run Try.prog w = .ok (x0 == y0 && (x1 == y1 && (x2 == y2 && ((x3 == y3 && (x4 == y4)) && ((x5 == y5 && (x6 == y6)) && (x7 == y7 && (x8 == y8 && (x9 == y9 && (x10 == y10 && (x11 == y11)))))))))) w := by
  refine eqA_of Try.underlying54 (by kernel_rfl) ?_
  refine eqf_cons (by rfl) (by go_simp; rfl) (by go_simp; rfl) (by go_simp) ?_
  refine eqf_cons (by rfl) (by go_simp; rfl) (by go_simp; rfl) (by go_simp) ?_
  refine eqf_cons (by rfl) (by go_simp; rfl) (by go_simp; rfl) (by go_simp) ?_
  refine eqf_cons (by rfl) (by go_simp) (by go_simp) (eqHa (d + 0) w _ _ _ _) ?_
  refine eqf_cons (by rfl) (by go_simp) (by go_simp) (eqHa (d + 0) w _ _ _ _) ?_
  refine eqf_cons (by rfl) (by go_simp; rfl) (by go_simp; rfl) (by go_simp) ?_
  refine eqf_cons (by rfl) (by go_simp; rfl) (by go_simp; rfl) (by go_simp) ?_
  refine eqf_cons (by rfl) (by go_simp; rfl) (by go_simp; rfl) (by go_simp) ?_
  refine eqf_cons (by rfl) (by go_simp; rfl) (by go_simp; rfl) (by go_simp) ?_
  exact eqf_last (by rfl) (by go_simp; rfl) (by go_simp; rfl) (by go_simp)
end Go.Proofs.Ythniclbmpeklmaa.Ev

