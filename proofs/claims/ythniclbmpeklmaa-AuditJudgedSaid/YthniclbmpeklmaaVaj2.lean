/- What is proved: a part of the way to the statement AuditJudgedSaid: EvH, EvI, EvJ, JuB, JuC, JuD; no conditions. Put together by a program of this session (claimv.py). -/
import Derived.Deep.RegionWith
import Derived.Deep.RegionHeld3
import Derived.Test.YthniclbmpeklmaaVaj1
section
namespace Go.Proofs.Ythniclbmpeklmaa.Ev
open Go.RowKit Go.Proofs.YthniclbmpeklmaaW.PrintWords Go.Proofs.YthniclbmpeklmaaW.PrintLast Go.Proofs.YthniclbmpeklmaaW.PrintMore
set_option linter.unusedVariables false
set_option linter.unusedSimpArgs false
/-- What is left of a field, when those of a set are taken away. -/
def zb (f b x : Int) : Int := if bits BinOp.and IntKind.i64 f b = 0 then x else 0
def zy (f : Int) (y : Bool) : Bool := y && bits BinOp.and IntKind.i64 f 32 == 0
def fset : List Int := [0, 1, 4, 5, 9, 21, 28, 32, 33, 64, 65, 66, 70, 71]
theorem bare_any (k wk op hn hg nn ng t a u : Int) (y : Bool) (er : Int) (f : Int) (hf : f ∈ fset) (w : World) :
    Calls Try.prog 94 #[.agg (evC k wk op hn hg nn ng t a u y er), .int .i64 f] w fun e w' => e = .returned (.agg (evC k wk op (zb f 1 hn) (zb f 1 hg) (zb f 2 nn) (zb f 2 ng) (zb f 4 t) (zb f 8 a) (zb f 16 u) (zy f y) (zb f 64 er))) ∧ Below w.heap.size w w' := by
  simp only [fset, List.mem_cons, List.not_mem_nil, or_false] at hf
  rcases hf with rfl | rfl | rfl | rfl | rfl | rfl | rfl | rfl | rfl | rfl | rfl | rfl | rfl | rfl
  · simpa only [zb, zy, show bits BinOp.and IntKind.i64 0 1 = 0 from by decide, show bits BinOp.and IntKind.i64 0 2 = 0 from by decide, show bits BinOp.and IntKind.i64 0 4 = 0 from by decide, show bits BinOp.and IntKind.i64 0 8 = 0 from by decide, show bits BinOp.and IntKind.i64 0 16 = 0 from by decide, show bits BinOp.and IntKind.i64 0 32 = 0 from by decide, show bits BinOp.and IntKind.i64 0 64 = 0 from by decide, if_true, show ¬ ((1 : Int) = 0) from by decide, show ¬ ((2 : Int) = 0) from by decide, show ¬ ((4 : Int) = 0) from by decide, show ¬ ((8 : Int) = 0) from by decide, show ¬ ((16 : Int) = 0) from by decide, show ¬ ((64 : Int) = 0) from by decide, if_false, show ((32 : Int) == 0) = false from by decide, show ((0 : Int) == 0) = true from by decide, Bool.and_true, Bool.and_false] using bare_0 k wk op hn hg nn ng t a u y er w
  · simpa only [zb, zy, show bits BinOp.and IntKind.i64 1 1 = 1 from by decide, show bits BinOp.and IntKind.i64 1 2 = 0 from by decide, show bits BinOp.and IntKind.i64 1 4 = 0 from by decide, show bits BinOp.and IntKind.i64 1 8 = 0 from by decide, show bits BinOp.and IntKind.i64 1 16 = 0 from by decide, show bits BinOp.and IntKind.i64 1 32 = 0 from by decide, show bits BinOp.and IntKind.i64 1 64 = 0 from by decide, if_true, show ¬ ((1 : Int) = 0) from by decide, show ¬ ((2 : Int) = 0) from by decide, show ¬ ((4 : Int) = 0) from by decide, show ¬ ((8 : Int) = 0) from by decide, show ¬ ((16 : Int) = 0) from by decide, show ¬ ((64 : Int) = 0) from by decide, if_false, show ((32 : Int) == 0) = false from by decide, show ((0 : Int) == 0) = true from by decide, Bool.and_true, Bool.and_false] using bare_1 k wk op hn hg nn ng t a u y er w
  · simpa only [zb, zy, show bits BinOp.and IntKind.i64 4 1 = 0 from by decide, show bits BinOp.and IntKind.i64 4 2 = 0 from by decide, show bits BinOp.and IntKind.i64 4 4 = 4 from by decide, show bits BinOp.and IntKind.i64 4 8 = 0 from by decide, show bits BinOp.and IntKind.i64 4 16 = 0 from by decide, show bits BinOp.and IntKind.i64 4 32 = 0 from by decide, show bits BinOp.and IntKind.i64 4 64 = 0 from by decide, if_true, show ¬ ((1 : Int) = 0) from by decide, show ¬ ((2 : Int) = 0) from by decide, show ¬ ((4 : Int) = 0) from by decide, show ¬ ((8 : Int) = 0) from by decide, show ¬ ((16 : Int) = 0) from by decide, show ¬ ((64 : Int) = 0) from by decide, if_false, show ((32 : Int) == 0) = false from by decide, show ((0 : Int) == 0) = true from by decide, Bool.and_true, Bool.and_false] using bare_4 k wk op hn hg nn ng t a u y er w
  · simpa only [zb, zy, show bits BinOp.and IntKind.i64 5 1 = 1 from by decide, show bits BinOp.and IntKind.i64 5 2 = 0 from by decide, show bits BinOp.and IntKind.i64 5 4 = 4 from by decide, show bits BinOp.and IntKind.i64 5 8 = 0 from by decide, show bits BinOp.and IntKind.i64 5 16 = 0 from by decide, show bits BinOp.and IntKind.i64 5 32 = 0 from by decide, show bits BinOp.and IntKind.i64 5 64 = 0 from by decide, if_true, show ¬ ((1 : Int) = 0) from by decide, show ¬ ((2 : Int) = 0) from by decide, show ¬ ((4 : Int) = 0) from by decide, show ¬ ((8 : Int) = 0) from by decide, show ¬ ((16 : Int) = 0) from by decide, show ¬ ((64 : Int) = 0) from by decide, if_false, show ((32 : Int) == 0) = false from by decide, show ((0 : Int) == 0) = true from by decide, Bool.and_true, Bool.and_false] using bare_5 k wk op hn hg nn ng t a u y er w
  · simpa only [zb, zy, show bits BinOp.and IntKind.i64 9 1 = 1 from by decide, show bits BinOp.and IntKind.i64 9 2 = 0 from by decide, show bits BinOp.and IntKind.i64 9 4 = 0 from by decide, show bits BinOp.and IntKind.i64 9 8 = 8 from by decide, show bits BinOp.and IntKind.i64 9 16 = 0 from by decide, show bits BinOp.and IntKind.i64 9 32 = 0 from by decide, show bits BinOp.and IntKind.i64 9 64 = 0 from by decide, if_true, show ¬ ((1 : Int) = 0) from by decide, show ¬ ((2 : Int) = 0) from by decide, show ¬ ((4 : Int) = 0) from by decide, show ¬ ((8 : Int) = 0) from by decide, show ¬ ((16 : Int) = 0) from by decide, show ¬ ((64 : Int) = 0) from by decide, if_false, show ((32 : Int) == 0) = false from by decide, show ((0 : Int) == 0) = true from by decide, Bool.and_true, Bool.and_false] using bare_9 k wk op hn hg nn ng t a u y er w
  · simpa only [zb, zy, show bits BinOp.and IntKind.i64 21 1 = 1 from by decide, show bits BinOp.and IntKind.i64 21 2 = 0 from by decide, show bits BinOp.and IntKind.i64 21 4 = 4 from by decide, show bits BinOp.and IntKind.i64 21 8 = 0 from by decide, show bits BinOp.and IntKind.i64 21 16 = 16 from by decide, show bits BinOp.and IntKind.i64 21 32 = 0 from by decide, show bits BinOp.and IntKind.i64 21 64 = 0 from by decide, if_true, show ¬ ((1 : Int) = 0) from by decide, show ¬ ((2 : Int) = 0) from by decide, show ¬ ((4 : Int) = 0) from by decide, show ¬ ((8 : Int) = 0) from by decide, show ¬ ((16 : Int) = 0) from by decide, show ¬ ((64 : Int) = 0) from by decide, if_false, show ((32 : Int) == 0) = false from by decide, show ((0 : Int) == 0) = true from by decide, Bool.and_true, Bool.and_false] using bare_21 k wk op hn hg nn ng t a u y er w
  · simpa only [zb, zy, show bits BinOp.and IntKind.i64 28 1 = 0 from by decide, show bits BinOp.and IntKind.i64 28 2 = 0 from by decide, show bits BinOp.and IntKind.i64 28 4 = 4 from by decide, show bits BinOp.and IntKind.i64 28 8 = 8 from by decide, show bits BinOp.and IntKind.i64 28 16 = 16 from by decide, show bits BinOp.and IntKind.i64 28 32 = 0 from by decide, show bits BinOp.and IntKind.i64 28 64 = 0 from by decide, if_true, show ¬ ((1 : Int) = 0) from by decide, show ¬ ((2 : Int) = 0) from by decide, show ¬ ((4 : Int) = 0) from by decide, show ¬ ((8 : Int) = 0) from by decide, show ¬ ((16 : Int) = 0) from by decide, show ¬ ((64 : Int) = 0) from by decide, if_false, show ((32 : Int) == 0) = false from by decide, show ((0 : Int) == 0) = true from by decide, Bool.and_true, Bool.and_false] using bare_28 k wk op hn hg nn ng t a u y er w
  · simpa only [zb, zy, show bits BinOp.and IntKind.i64 32 1 = 0 from by decide, show bits BinOp.and IntKind.i64 32 2 = 0 from by decide, show bits BinOp.and IntKind.i64 32 4 = 0 from by decide, show bits BinOp.and IntKind.i64 32 8 = 0 from by decide, show bits BinOp.and IntKind.i64 32 16 = 0 from by decide, show bits BinOp.and IntKind.i64 32 32 = 32 from by decide, show bits BinOp.and IntKind.i64 32 64 = 0 from by decide, if_true, show ¬ ((1 : Int) = 0) from by decide, show ¬ ((2 : Int) = 0) from by decide, show ¬ ((4 : Int) = 0) from by decide, show ¬ ((8 : Int) = 0) from by decide, show ¬ ((16 : Int) = 0) from by decide, show ¬ ((64 : Int) = 0) from by decide, if_false, show ((32 : Int) == 0) = false from by decide, show ((0 : Int) == 0) = true from by decide, Bool.and_true, Bool.and_false] using bare_32 k wk op hn hg nn ng t a u y er w
  · simpa only [zb, zy, show bits BinOp.and IntKind.i64 33 1 = 1 from by decide, show bits BinOp.and IntKind.i64 33 2 = 0 from by decide, show bits BinOp.and IntKind.i64 33 4 = 0 from by decide, show bits BinOp.and IntKind.i64 33 8 = 0 from by decide, show bits BinOp.and IntKind.i64 33 16 = 0 from by decide, show bits BinOp.and IntKind.i64 33 32 = 32 from by decide, show bits BinOp.and IntKind.i64 33 64 = 0 from by decide, if_true, show ¬ ((1 : Int) = 0) from by decide, show ¬ ((2 : Int) = 0) from by decide, show ¬ ((4 : Int) = 0) from by decide, show ¬ ((8 : Int) = 0) from by decide, show ¬ ((16 : Int) = 0) from by decide, show ¬ ((64 : Int) = 0) from by decide, if_false, show ((32 : Int) == 0) = false from by decide, show ((0 : Int) == 0) = true from by decide, Bool.and_true, Bool.and_false] using bare_33 k wk op hn hg nn ng t a u y er w
  · simpa only [zb, zy, show bits BinOp.and IntKind.i64 64 1 = 0 from by decide, show bits BinOp.and IntKind.i64 64 2 = 0 from by decide, show bits BinOp.and IntKind.i64 64 4 = 0 from by decide, show bits BinOp.and IntKind.i64 64 8 = 0 from by decide, show bits BinOp.and IntKind.i64 64 16 = 0 from by decide, show bits BinOp.and IntKind.i64 64 32 = 0 from by decide, show bits BinOp.and IntKind.i64 64 64 = 64 from by decide, if_true, show ¬ ((1 : Int) = 0) from by decide, show ¬ ((2 : Int) = 0) from by decide, show ¬ ((4 : Int) = 0) from by decide, show ¬ ((8 : Int) = 0) from by decide, show ¬ ((16 : Int) = 0) from by decide, show ¬ ((64 : Int) = 0) from by decide, if_false, show ((32 : Int) == 0) = false from by decide, show ((0 : Int) == 0) = true from by decide, Bool.and_true, Bool.and_false] using bare_64 k wk op hn hg nn ng t a u y er w
  · simpa only [zb, zy, show bits BinOp.and IntKind.i64 65 1 = 1 from by decide, show bits BinOp.and IntKind.i64 65 2 = 0 from by decide, show bits BinOp.and IntKind.i64 65 4 = 0 from by decide, show bits BinOp.and IntKind.i64 65 8 = 0 from by decide, show bits BinOp.and IntKind.i64 65 16 = 0 from by decide, show bits BinOp.and IntKind.i64 65 32 = 0 from by decide, show bits BinOp.and IntKind.i64 65 64 = 64 from by decide, if_true, show ¬ ((1 : Int) = 0) from by decide, show ¬ ((2 : Int) = 0) from by decide, show ¬ ((4 : Int) = 0) from by decide, show ¬ ((8 : Int) = 0) from by decide, show ¬ ((16 : Int) = 0) from by decide, show ¬ ((64 : Int) = 0) from by decide, if_false, show ((32 : Int) == 0) = false from by decide, show ((0 : Int) == 0) = true from by decide, Bool.and_true, Bool.and_false] using bare_65 k wk op hn hg nn ng t a u y er w
  · simpa only [zb, zy, show bits BinOp.and IntKind.i64 66 1 = 0 from by decide, show bits BinOp.and IntKind.i64 66 2 = 2 from by decide, show bits BinOp.and IntKind.i64 66 4 = 0 from by decide, show bits BinOp.and IntKind.i64 66 8 = 0 from by decide, show bits BinOp.and IntKind.i64 66 16 = 0 from by decide, show bits BinOp.and IntKind.i64 66 32 = 0 from by decide, show bits BinOp.and IntKind.i64 66 64 = 64 from by decide, if_true, show ¬ ((1 : Int) = 0) from by decide, show ¬ ((2 : Int) = 0) from by decide, show ¬ ((4 : Int) = 0) from by decide, show ¬ ((8 : Int) = 0) from by decide, show ¬ ((16 : Int) = 0) from by decide, show ¬ ((64 : Int) = 0) from by decide, if_false, show ((32 : Int) == 0) = false from by decide, show ((0 : Int) == 0) = true from by decide, Bool.and_true, Bool.and_false] using bare_66 k wk op hn hg nn ng t a u y er w
  · simpa only [zb, zy, show bits BinOp.and IntKind.i64 70 1 = 0 from by decide, show bits BinOp.and IntKind.i64 70 2 = 2 from by decide, show bits BinOp.and IntKind.i64 70 4 = 4 from by decide, show bits BinOp.and IntKind.i64 70 8 = 0 from by decide, show bits BinOp.and IntKind.i64 70 16 = 0 from by decide, show bits BinOp.and IntKind.i64 70 32 = 0 from by decide, show bits BinOp.and IntKind.i64 70 64 = 64 from by decide, if_true, show ¬ ((1 : Int) = 0) from by decide, show ¬ ((2 : Int) = 0) from by decide, show ¬ ((4 : Int) = 0) from by decide, show ¬ ((8 : Int) = 0) from by decide, show ¬ ((16 : Int) = 0) from by decide, show ¬ ((64 : Int) = 0) from by decide, if_false, show ((32 : Int) == 0) = false from by decide, show ((0 : Int) == 0) = true from by decide, Bool.and_true, Bool.and_false] using bare_70 k wk op hn hg nn ng t a u y er w
  · simpa only [zb, zy, show bits BinOp.and IntKind.i64 71 1 = 1 from by decide, show bits BinOp.and IntKind.i64 71 2 = 2 from by decide, show bits BinOp.and IntKind.i64 71 4 = 4 from by decide, show bits BinOp.and IntKind.i64 71 8 = 0 from by decide, show bits BinOp.and IntKind.i64 71 16 = 0 from by decide, show bits BinOp.and IntKind.i64 71 32 = 0 from by decide, show bits BinOp.and IntKind.i64 71 64 = 64 from by decide, if_true, show ¬ ((1 : Int) = 0) from by decide, show ¬ ((2 : Int) = 0) from by decide, show ¬ ((4 : Int) = 0) from by decide, show ¬ ((8 : Int) = 0) from by decide, show ¬ ((16 : Int) = 0) from by decide, show ¬ ((64 : Int) = 0) from by decide, if_false, show ((32 : Int) == 0) = false from by decide, show ((0 : Int) == 0) = true from by decide, Bool.and_true, Bool.and_false] using bare_71 k wk op hn hg nn ng t a u y er w
theorem pick_in (L : List Int) (op : Int) : (pickL L op).1 = 0 ∨ (pickL L op).1 ∈ L := by
  unfold pickL
  split
  · exact .inl rfl
  · right
    simp only [List.getD_eq_getElem?_getD]
    rename_i h
    have : op.toNat < L.length := by omega
    rw [List.getElem?_eq_getElem this]
    exact List.getElem_mem _
theorem fields_in (k wk op er : Int) : (fieldsF k wk op er).1 ∈ fset := by
  unfold fieldsF
  have p2 := pick_in [0, 28, 1, 5, 9, 0, 0, 0] op
  have p3 := pick_in [0, 70, 33, 71, 65] op
  have p5 := pick_in [0, 66, 32, 66, 64, 0, 4, 4] op
  generalize pickL [0, 28, 1, 5, 9, 0, 0, 0] op = q2 at *
  generalize pickL [0, 70, 33, 71, 65] op = q3 at *
  generalize pickL [0, 66, 32, 66, 64, 0, 4, 4] op = q5 at *
  split
  · show (4 : Int) ∈ fset
    decide
  split
  · show (21 : Int) ∈ fset
    decide
  split
  · simp only [List.mem_cons, List.not_mem_nil, or_false] at p2
    rcases p2 with h | h | h | h | h | h | h | h | h <;> rw [h] <;> decide
  split
  · simp only [List.mem_cons, List.not_mem_nil, or_false] at p3
    rcases p3 with h | h | h | h | h | h <;> rw [h] <;> split <;> dsimp only <;> decide
  split
  · simp only [List.mem_cons, List.not_mem_nil, or_false] at p5
    rcases p5 with h | h | h | h | h | h | h | h | h <;> rw [h] <;> split <;> dsimp only <;> decide
  · decide
theorem eqHa (d : Nat) (w : World) (x0 y0 : Int) (x1 y1 : Int) :
    (Op.equalIn (d + 2) 34 (.agg #[.int .i64 x0, .int .i64 x1]) (.agg #[.int .i64 y0, .int .i64 y1])).run Try.prog w = .ok (x0 == y0 && (x1 == y1)) w := by
  refine eqA_of Try.underlying34 (by kernel_rfl) ?_
  refine eqf_cons (by rfl) (by go_simp; rfl) (by go_simp; rfl) (by go_simp) ?_
  exact eqf_last (by rfl) (by go_simp; rfl) (by go_simp; rfl) (by go_simp)
theorem eqEv (d : Nat) (w : World) (x0 y0 : Int) (x1 y1 : Int) (x2 y2 : Int) (x3 y3 : Int) (x4 y4 : Int) (x5 y5 : Int) (x6 y6 : Int) (x7 y7 : Int) (x8 y8 : Int) (x9 y9 : Int) (x10 y10 : Bool) (x11 y11 : Int) :
    (Op.equalIn (d + 3) 54 (.agg #[.int .i64 x0, .int .i64 x1, .int .i64 x2, .int .i64 x3, .int .i64 x4, .int .i64 x5, .int .i64 x6, .int .i64 x7, .int .i64 x8, .int .i64 x9, .bool x10, .int .i64 x11]) (.agg #[.int .i64 y0, .int .i64 y1, .int .i64 y2, .int .i64 y3, .int .i64 y4, .int .i64 y5, .int .i64 y6, .int .i64 y7, .int .i64 y8, .int .i64 y9, .bool y10, .int .i64 y11])).run Try.prog w = .ok (x0 == y0 && (x1 == y1 && (x2 == y2 && ((x3 == y3 && (x4 == y4)) && ((x5 == y5 && (x6 == y6)) && (x7 == y7 && (x8 == y8 && (x9 == y9 && (x10 == y10 && (x11 == y11)))))))))) w := by
  refine eqA_of Try.underlying54 (by kernel_rfl) ?_
  refine eqf_cons (by rfl) (by go_simp; rfl) (by go_simp; rfl) (by go_simp) ?_
  refine eqf_cons (by rfl) (by go_simp; rfl) (by go_simp; rfl) (by go_simp) ?_
  refine eqf_cons (by rfl) (by go_simp; rfl) (by go_simp; rfl) (by go_simp) ?_
  refine eqf_cons (by rfl) (by go_simp) (by go_simp) (eqHa (d + 0) w _ _ _ _) ?_
  refine eqf_cons (by rfl) (by go_simp) (by go_simp) (eqHa (d + 0) w _ _ _ _) ?_
  refine eqf_cons (by rfl) (by go_simp; rfl) (by go_simp; rfl) (by go_simp) ?_
  refine eqf_cons (by rfl) (by go_simp; rfl) (by go_simp; rfl) (by go_simp) ?_
  refine eqf_cons (by rfl) (by go_simp; rfl) (by go_simp; rfl) (by go_simp) ?_
  refine eqf_cons (by rfl) (by go_simp; rfl) (by go_simp; rfl) (by go_simp) ?_
  exact eqf_last (by rfl) (by go_simp; rfl) (by go_simp; rfl) (by go_simp)
end Go.Proofs.Ythniclbmpeklmaa.Ev
end
section
namespace Go.Proofs.Ythniclbmpeklmaa.Ev
open Go.RowKit Go.Proofs.YthniclbmpeklmaaW.PrintWords Go.Proofs.YthniclbmpeklmaaW.PrintLast Go.Proofs.YthniclbmpeklmaaW.PrintMore
set_option linter.unusedVariables false
set_option linter.unusedSimpArgs false
theorem dlt {x : Int} (h : 0 ≤ x) : decide (x < 0) = false := decide_eq_false (by omega)
attribute [local go_sem high] eqEv eqHa
set_option maxHeartbeats 4000000 in
set_option maxRecDepth 100000 in
theorem right_walk (k wk op hn hg nn ng t a u : Int) (y : Bool) (er : Int) (f : Int) (ok q : Bool) (x1 x2 x3 x4 x5 x6 x7 : Int) (x8 : Bool) (x9 : Int)
    (CF : Aside0 (∀ W, Calls Try.prog 92 #[.agg (evC k wk op hn hg nn ng t a u y er)] W fun e w' => e = .returned (.tuple #[.int .i64 f, .bool ok]) ∧ Below W.heap.size W w'))
    (CC : Aside0 (∀ W, Calls Try.prog 93 #[.agg (evC k wk op hn hg nn ng t a u y er)] W fun e w' => e = .returned (.bool q) ∧ Below W.heap.size W w'))
    (CB : Aside0 (∀ W, Calls Try.prog 94 #[.agg (evC k wk op hn hg nn ng t a u y er), .int .i64 f] W fun e w' => e = .returned (.agg (evC k wk op x1 x2 x3 x4 x5 x6 x7 x8 x9)) ∧ Below W.heap.size W w')) (w : World) :
    Calls Try.prog 65 #[.agg (evC k wk op hn hg nn ng t a u y er)] w fun e w' => e = .returned (.bool (ok && (!decide (wk < 0) && (!decide (er < 0) && ((k == 2) || q))) && (x1 == 0 && x2 == 0 && x3 == 0 && x4 == 0 && x5 == 0 && x6 == 0 && x7 == 0 && !x8 && x9 == 0))) ∧ Below w.heap.size w w' := by
  have hu := Try.underlying54
  have hu2 := Try.underlying34
  by_cases k2 : k = 2
  · subst k2
    have HB := Aside0.mk (below_alloc (Below.refl w.heap.size w) (.cells (evC 2 wk op hn hg nn ng t a u y er) 54))
    have HO := Aside0.mk (heap_alloc_new w (.cells (evC 2 wk op hn hg nn ng t a u y er) 54))
    go_enter Try.func65, Try.ntmps65
    go_wp2_with (first | (go_at_call 92; (with_reducible refine (CF.out _).mono ?_); rintro e w1 ⟨rfl, hb⟩; have n0 := Aside0.mk (below_step HB.out hb); have n1 := Aside0.mk ((hb.block _ (by simp)).trans HO.out); clear HB HO hb; have HB := n0; have HO := n1; clear n0 n1; have hc := fun i => blk_cell HO.out i; have hz := Aside0.mk (blk_lt HO.out)) | (go_at_call 93; (with_reducible refine (CC.out _).mono ?_); rintro e w1 ⟨rfl, hb⟩; have n0 := Aside0.mk (below_step HB.out hb); have n1 := Aside0.mk ((hb.block _ hz.out).trans HO.out); clear hc; clear HB HO hb; have HB := n0; have HO := n1; clear n0 n1; have hc := fun i => blk_cell HO.out i))
    all_goals first
      | (go_ret; exact ⟨by first | (simp [*, Bool.and_assoc, dlt]; done) | (simp_all [Bool.and_assoc, dlt]; done) | (simp [*, Bool.and_assoc, dlt]; rename_i h9; intro hq; exfalso; rcases h9 with (h9 | h9) | h9; omega; omega; (rw [hq] at h9; cases h9)), HB.out⟩)
      | (go_region_held3 (fun w' => ∀ i, w'.cell? ⟨w.heap.size, i, none⟩ = (evC 2 wk op hn hg nn ng t a u y er)[i]?) ((intro i; exact blk_cell HO.out i)) ((go_at_call 94; (with_reducible refine (CB.out _).mono ?_); rintro e w2 ⟨rfl, hb⟩; have n0 := Aside0.mk (below_step (Below.drew HB.out) hb); have n1 := Aside0.mk ((hb.block _ (by exact blk_lt HO.out)).trans (by exact HO.out)); clear hc; clear HB HO hb; have HB := n0; have HO := n1; clear n0 n1))
         go_wp2
         go_ret
         exact ⟨by first | (simp [*, Bool.and_assoc, dlt]; done) | (simp_all [Bool.and_assoc, dlt]; done) | (simp [*, Bool.and_assoc, dlt]; rename_i h9; intro hq; exfalso; rcases h9 with (h9 | h9) | h9; omega; omega; (rw [hq] at h9; cases h9)), HB.out⟩)
  · have b2 : (k == 2) = false := beq_eq_false_iff_ne.2 k2
    have b2' : (k != 2) = true := bne_iff_ne.2 k2
    clear k2
    have HB := Aside0.mk (below_alloc (Below.refl w.heap.size w) (.cells (evC k wk op hn hg nn ng t a u y er) 54))
    have HO := Aside0.mk (heap_alloc_new w (.cells (evC k wk op hn hg nn ng t a u y er) 54))
    go_enter Try.func65, Try.ntmps65
    go_wp2_with (first | (go_at_call 92; (with_reducible refine (CF.out _).mono ?_); rintro e w1 ⟨rfl, hb⟩; have n0 := Aside0.mk (below_step HB.out hb); have n1 := Aside0.mk ((hb.block _ (by simp)).trans HO.out); clear HB HO hb; have HB := n0; have HO := n1; clear n0 n1; have hc := fun i => blk_cell HO.out i; have hz := Aside0.mk (blk_lt HO.out)) | (go_at_call 93; (with_reducible refine (CC.out _).mono ?_); rintro e w1 ⟨rfl, hb⟩; have n0 := Aside0.mk (below_step HB.out hb); have n1 := Aside0.mk ((hb.block _ hz.out).trans HO.out); clear hc; clear HB HO hb; have HB := n0; have HO := n1; clear n0 n1; have hc := fun i => blk_cell HO.out i))
    all_goals first
      | (go_ret; exact ⟨by first | (simp [*, Bool.and_assoc, dlt]; done) | (simp_all [Bool.and_assoc, dlt]; done) | (simp [*, Bool.and_assoc, dlt]; rename_i h9; intro hq; exfalso; rcases h9 with (h9 | h9) | h9; omega; omega; (rw [hq] at h9; cases h9)), HB.out⟩)
      | (go_region_held3 (fun w' => ∀ i, w'.cell? ⟨w.heap.size, i, none⟩ = (evC k wk op hn hg nn ng t a u y er)[i]?) ((intro i; exact blk_cell HO.out i)) ((go_at_call 94; (with_reducible refine (CB.out _).mono ?_); rintro e w2 ⟨rfl, hb⟩; have n0 := Aside0.mk (below_step (Below.drew HB.out) hb); have n1 := Aside0.mk ((hb.block _ (by exact blk_lt HO.out)).trans (by exact HO.out)); clear hc; clear HB HO hb; have HB := n0; have HO := n1; clear n0 n1))
         go_wp2
         go_ret
         exact ⟨by first | (simp [*, Bool.and_assoc, dlt]; done) | (simp_all [Bool.and_assoc, dlt]; done) | (simp [*, Bool.and_assoc, dlt]; rename_i h9; intro hq; exfalso; rcases h9 with (h9 | h9) | h9; omega; omega; (rw [hq] at h9; cases h9)), HB.out⟩)
/-- What the program's function tells, in its own words. -/
def rightP (k wk op hn hg nn ng t a u : Int) (y : Bool) (er : Int) : Bool :=
  ((fieldsF k wk op er).2 && (!decide (wk < 0) && (!decide (er < 0) && ((k == 2) || countedB k hn hg nn ng t a u))) && (zb (fieldsF k wk op er).1 1 hn == 0 && zb (fieldsF k wk op er).1 1 hg == 0 && zb (fieldsF k wk op er).1 2 nn == 0 && zb (fieldsF k wk op er).1 2 ng == 0 && zb (fieldsF k wk op er).1 4 t == 0 && zb (fieldsF k wk op er).1 8 a == 0 && zb (fieldsF k wk op er).1 16 u == 0 && !zy (fieldsF k wk op er).1 y && zb (fieldsF k wk op er).1 64 er == 0))
theorem ev_right_any (k wk op hn hg nn ng t a u : Int) (y : Bool) (er : Int) (w : World) :
    Calls Try.prog 65 #[.agg (evC k wk op hn hg nn ng t a u y er)] w fun e w' => e = .returned (.bool (rightP k wk op hn hg nn ng t a u y er)) ∧ Below w.heap.size w w' :=
  right_walk k wk op hn hg nn ng t a u y er _ _ _ _ _ _ _ _ _ _ _ _ ⟨fun W => fields_any k wk op hn hg nn ng t a u y er W⟩ ⟨fun W => counted_any k wk op hn hg nn ng t a u y er W⟩ ⟨fun W => bare_any k wk op hn hg nn ng t a u y er _ (fields_in k wk op er) W⟩ w
end Go.Proofs.Ythniclbmpeklmaa.Ev
end
section
namespace Go.Proofs.Ythniclbmpeklmaa.Ev
open Go.RowKit
set_option linter.unusedVariables false
set_option linter.unusedSimpArgs false
set_option maxHeartbeats 4000000
theorem right_no (k wk op hn hg nn ng t a u : Int) (y : Bool) (er : Int) (h1 : (fieldsF k wk op er).2 = false) (h2 : kindB k wk op = false) : rightP k wk op hn hg nn ng t a u y er = evRight k wk op hn hg nn ng t a u y er := by
  rw [rightP, evRight, h1, h2]
  rfl
theorem pick_in1 {L : List Int} {op : Int} (h : op < 1 ∨ (L.length : Int) ≤ op) : pickL L op = (0, false) := if_pos h
theorem right_eq (k wk op hn hg nn ng t a u : Int) (y : Bool) (er : Int) : rightP k wk op hn hg nn ng t a u y er = evRight k wk op hn hg nn ng t a u y er := by
  by_cases k1 : k = 1
  · subst k1
    cases y <;> (rw [Bool.eq_iff_iff]; simp (decide := true) [rightP, evRight, fieldsF, pickL, kindB, emptyB, hasH, hasN, hasT, hasA, hasU, hasY, hasE, in3, made, countedB, zb, zy, *] <;> omega)
  by_cases k4 : k = 4
  · subst k4
    cases y <;> (rw [Bool.eq_iff_iff]; simp (decide := true) [rightP, evRight, fieldsF, pickL, kindB, emptyB, hasH, hasN, hasT, hasA, hasU, hasY, hasE, in3, made, countedB, zb, zy, *] <;> omega)
  by_cases k2 : k = 2
  · subst k2
    by_cases h : op < 1 ∨ (8 : Int) ≤ op
    · apply right_no
      · rw [fieldsF, if_neg (by decide), if_neg (by decide), if_pos rfl, pick_in1 h]
      · rw [Bool.eq_false_iff]
        simp [kindB]
        omega
    · obtain rfl | rfl | rfl | rfl | rfl | rfl | rfl : op = 1 ∨ op = 2 ∨ op = 3 ∨ op = 4 ∨ op = 5 ∨ op = 6 ∨ op = 7 := by omega
      all_goals (cases y <;> (rw [Bool.eq_iff_iff]; simp (decide := true) [rightP, evRight, fieldsF, pickL, kindB, emptyB, hasH, hasN, hasT, hasA, hasU, hasY, hasE, in3, made, countedB, zb, zy, *] <;> omega))
  by_cases k3 : k = 3
  · subst k3
    by_cases h : op < 1 ∨ (5 : Int) ≤ op
    · apply right_no
      · rw [fieldsF, if_neg (by decide), if_neg (by decide), if_neg (by decide), if_pos rfl, pick_in1 h]
      · rw [Bool.eq_false_iff]
        simp [kindB]
        omega
    · by_cases he : er = 0
      · subst he
        obtain rfl | rfl | rfl | rfl : op = 1 ∨ op = 2 ∨ op = 3 ∨ op = 4 := by omega
        all_goals (cases y <;> (rw [Bool.eq_iff_iff]; simp (decide := true) [rightP, evRight, fieldsF, pickL, kindB, emptyB, hasH, hasN, hasT, hasA, hasU, hasY, hasE, in3, made, countedB, zb, zy, *] <;> omega))
      · obtain rfl | rfl | rfl | rfl : op = 1 ∨ op = 2 ∨ op = 3 ∨ op = 4 := by omega
        all_goals (cases y <;> (rw [Bool.eq_iff_iff]; simp (decide := true) [rightP, evRight, fieldsF, pickL, kindB, emptyB, hasH, hasN, hasT, hasA, hasU, hasY, hasE, in3, made, countedB, zb, zy, *] <;> omega))
  by_cases k5 : k = 5
  · subst k5
    by_cases h : op < 1 ∨ (8 : Int) ≤ op
    · apply right_no
      · rw [fieldsF, if_neg (by decide), if_neg (by decide), if_neg (by decide), if_neg (by decide), if_pos rfl, pick_in1 h]
      · rw [Bool.eq_false_iff]
        simp [kindB]
        omega
    · by_cases he : er = 0
      · subst he
        obtain rfl | rfl | rfl | rfl | rfl | rfl | rfl : op = 1 ∨ op = 2 ∨ op = 3 ∨ op = 4 ∨ op = 5 ∨ op = 6 ∨ op = 7 := by omega
        all_goals (cases y <;> (rw [Bool.eq_iff_iff]; simp (decide := true) [rightP, evRight, fieldsF, pickL, kindB, emptyB, hasH, hasN, hasT, hasA, hasU, hasY, hasE, in3, made, countedB, zb, zy, *] <;> omega))
      · obtain rfl | rfl | rfl | rfl | rfl | rfl | rfl : op = 1 ∨ op = 2 ∨ op = 3 ∨ op = 4 ∨ op = 5 ∨ op = 6 ∨ op = 7 := by omega
        all_goals (cases y <;> (rw [Bool.eq_iff_iff]; simp (decide := true) [rightP, evRight, fieldsF, pickL, kindB, emptyB, hasH, hasN, hasT, hasA, hasU, hasY, hasE, in3, made, countedB, zb, zy, *] <;> omega))
  apply right_no
  · rw [fieldsF, if_neg k1, if_neg k4, if_neg k2, if_neg k3, if_neg k5]
  · rw [Bool.eq_false_iff]
    simp [kindB]
    omega
/-- Whether an event is right, as the program tells it: the reference's own answer. -/
theorem event_right (k wk op hn hg nn ng t a u : Int) (y : Bool) (er : Int) (w : World) :
    Calls Try.prog 65 #[.agg (evC k wk op hn hg nn ng t a u y er)] w fun e w' => e = .returned (.bool (evRight k wk op hn hg nn ng t a u y er)) ∧ Below w.heap.size w w' := by
  rw [← right_eq]
  exact ev_right_any k wk op hn hg nn ng t a u y er w
end Go.Proofs.Ythniclbmpeklmaa.Ev
end
section
namespace Go.Proofs.Ythniclbmpeklmaa.Ju
open Go.RowKit Go.Maps Go.Proofs.YthniclbmpeklmaaW.PrintWords Go.Proofs.YthniclbmpeklmaaW.PrintLast Go.Proofs.YthniclbmpeklmaaW.PrintMore Go.Proofs.Ythniclbmpeklmaa.Mp Go.Proofs.Ythniclbmpeklmaa.Au
set_option linter.unusedVariables false
set_option linter.unusedSimpArgs false
/-- Unless something isn't so. -/
def unF (c : Bool) (m' m : Md) : Md × Int := if c = true then (m', 0) else (m, 6)
theorem end_new (b : Nat) (x y s : Int) (w : World) : Calls Try.prog 75 #[pA b, .agg #[.int .i64 x, .int .i64 y], .int .i64 s] w fun r w' => ∃ sb xb hb, r = .returned (.func (.func 99) #[] #[pA sb, pA xb, pA hb]) ∧ (w'.heap[sb]? = some (.cells #[.int .i64 s] 3 (0, 0)) ∧ w'.heap[xb]? = some (.cells #[pA b] 58 (0, 0)) ∧ w'.heap[hb]? = some (.cells #[.int .i64 x, .int .i64 y] 34 (0, 0))) ∧ Below w.heap.size w w' :=
  (end_any b x y s w).mono fun r w' ⟨h1, h2⟩ => ⟨_, _, _, h1, by
    subst h2
    exact ⟨by have q := blk_new ((w.alloc (.cells #[pA b] 58)).alloc (.cells #[.int .i64 x, .int .i64 y] 34)) (.cells #[.int .i64 s] 3); rw [show ((w.alloc (.cells #[pA b] 58)).alloc (.cells #[.int .i64 x, .int .i64 y] 34)).heap.size = w.heap.size + 1 + 1 by simp] at q; exact q,
      blk_alloc (blk_alloc (blk_new _ _) _) _, blk_alloc (by have q := blk_new (w.alloc (.cells #[pA b] 58)) (.cells #[.int .i64 x, .int .i64 y] 34); rw [show (w.alloc (.cells #[pA b] 58)).heap.size = w.heap.size + 1 by simp] at q; exact q) _⟩, by
    subst h2
    exact below_alloc (below_alloc (below_alloc (Below.refl _ _) _) _) _⟩
section
variable {w W W1 : World} {B b n m1 m2 eb xb sb hb : Nat} {m m' : Md} {e : Ev}
theorem un_no (fn : Fn) (first cap : Array Value) (h : MdIs W B b n m m1 m2) (k : Nat) : Calls Try.prog 73 #[.bool false, .func fn first cap] W fun r w' => r = .returned (.int .i64 (unF false m' m).2) ∧ MdIs w' B b (n + k) (unF false m' m).1 m1 m2 ∧ Fr W w' (mdS b m1 m2) :=
  (unless_no fn first cap W).mono fun r w' ⟨h1, h2⟩ => ⟨h1, by rw [h2]; exact h.up (by omega), by rw [h2]; exact Fr.refl _ _⟩
theorem un_nothing (c : Bool) (h : MdIs W B b n m m1 m2) : Calls Try.prog 73 #[.bool c, .func (.func 100) #[] #[]] W fun r w' => r = .returned (.int .i64 (unF c m m).2) ∧ MdIs w' B b (n + 3) (unF c m m).1 m1 m2 ∧ Fr W w' (mdS b m1 m2) := by
  cases c with
  | false => exact un_no _ _ _ h 3
  | true => exact (unless_nothing #[] W (fun w' => w' = W) (model_nothing W)).mono fun r w' ⟨h1, h2⟩ => ⟨h1, by rw [h2]; exact h.up (by omega), by rw [h2]; exact Fr.refl _ _⟩
theorem un_tick (c : Bool) (h : MdIs W B b n m m1 m2) (he : W.heap[eb]? = some (.cells (evA e) 54 (0, 0))) (hx : W.heap[xb]? = some (.cells #[pA b] 58 (0, 0))) : Calls Try.prog 73 #[.bool c, .func (.func 74) #[] #[pA eb, pA xb]] W fun r w' => r = .returned (.int .i64 (unF c { m with clk := e.t } m).2) ∧ MdIs w' B b (n + 3) (unF c { m with clk := e.t } m).1 m1 m2 ∧ Fr W w' (mdS b m1 m2) := by
  cases c with
  | false => exact un_no _ _ _ h 3
  | true => exact (unless_tick #[pA eb, pA xb] W _ (tick_any e h he hx)).mono fun r w' ⟨h1, h2⟩ => ⟨h1, h2.1.up (by omega), h2.2⟩
theorem un_end (c : Bool) (s x y : Int) (hn : n ≤ 1000000) (hx : (Lit.int .i64 x).wf = true) (hy : (Lit.int .i64 y).wf = true) (h : MdIs W B b n m m1 m2) (hb3 : W.heap[sb]? = some (.cells #[.int .i64 s] 3 (0, 0)) ∧ W.heap[xb]? = some (.cells #[pA b] 58 (0, 0)) ∧ W.heap[hb]? = some (.cells #[.int .i64 x, .int .i64 y] 34 (0, 0))) :
    Calls Try.prog 73 #[.bool c, .func (.func 99) #[] #[pA sb, pA xb, pA hb]] W fun r w' => r = .returned (.int .i64 (unF c (m.end_ (x, y) s) m).2) ∧ MdIs w' B b (n + 3) (unF c (m.end_ (x, y) s) m).1 m1 m2 ∧ Fr W w' (mdS b m1 m2) := by
  cases c with
  | false => exact un_no _ _ _ h 3
  | true => exact (unless_end #[pA sb, pA xb, pA hb] W _ (end1_any s x y hn hx hy h hb3.1 hb3.2.1 hb3.2.2)).mono fun r w' ⟨h1, h2⟩ => ⟨h1, h2.1.up (by omega), h2.2⟩
theorem un_start (c : Bool) (hn : n ≤ 1000000) (hx : (Lit.int .i64 e.nn).wf = true) (hy : (Lit.int .i64 e.ng).wf = true) (h : MdIs W B b n m m1 m2) (he : W.heap[eb]? = some (.cells (evA e) 54 (0, 0))) (hxb : W.heap[xb]? = some (.cells #[pA b] 58 (0, 0))) :
    Calls Try.prog 73 #[.bool c, .func (.func 101) #[] #[pA xb, pA eb]] W fun r w' => r = .returned (.int .i64 (unF c (m.arm e.new e.t) m).2) ∧ MdIs w' B b (n + 3) (unF c (m.arm e.new e.t) m).1 m1 m2 ∧ Fr W w' (mdS b m1 m2) := by
  cases c with
  | false => exact un_no _ _ _ h 3
  | true => exact (unless_start #[pA xb, pA eb] W _ (start1_any e hn hx hy h he hxb)).mono fun r w' ⟨h1, h2⟩ => ⟨h1, h2.1.up (by omega), h2.2⟩
theorem un_rearm (c : Bool) (hn : n + 1 ≤ 1000000) (hx : (Lit.int .i64 e.nn).wf = true) (hy : (Lit.int .i64 e.ng).wf = true) (hx' : (Lit.int .i64 e.hn).wf = true) (hy' : (Lit.int .i64 e.hg).wf = true) (h : MdIs W B b n m m1 m2) (he : W.heap[eb]? = some (.cells (evA e) 54 (0, 0))) (hxb : W.heap[xb]? = some (.cells #[pA b] 58 (0, 0))) :
    Calls Try.prog 73 #[.bool c, .func (.func 103) #[] #[pA xb, pA eb]] W fun r w' => r = .returned (.int .i64 (unF c ((m.end_ e.h 4).arm e.new e.t) m).2) ∧ MdIs w' B b (n + 3) (unF c ((m.end_ e.h 4).arm e.new e.t) m).1 m1 m2 ∧ Fr W w' (mdS b m1 m2) := by
  cases c with
  | false => exact un_no _ _ _ h 3
  | true => exact (unless_rearm #[pA xb, pA eb] W _ (rearm1_any e hn hx hy hx' hy' h he hxb)).mono fun r w' ⟨h1, h2⟩ => ⟨h1, h2⟩
end
/-- What a walk over a model stands on: the model, the boxes of its pointer and of the event. -/
structure Dj (w W : World) (B b n m1 m2 : Nat) (m : Md) (e : Ev) : Prop where
  md : MdIs W B b n m m1 m2
  xb : W.heap[w.heap.size]? = some (.cells #[pA b] 58 (0, 0))
  eb : W.heap[w.heap.size + 1]? = some (.cells (evA e) 54 (0, 0))
  fr : Fr w W (mdS b m1 m2)
section
variable {w W W1 : World} {B b n m1 m2 : Nat} {m : Md} {e : Ev}
theorem Dj.start (h : MdIs w B b n m m1 m2) (e : Ev) : Dj w ((w.alloc (.cells #[pA b] 58)).alloc (.cells (evA e) 54)) B b n m1 m2 m e :=
  ⟨(h.alloc _).alloc _, blk_alloc (blk_new _ _) _, by have q := blk_new (w.alloc (.cells #[pA b] 58)) (.cells (evA e) 54); rw [show (w.alloc (.cells #[pA b] 58)).heap.size = w.heap.size + 1 by simp] at q; exact q, ((Fr.refl _ _).alloc _).alloc _⟩
theorem Dj.step (h : Dj w W B b n m1 m2 m e) (hb : Below W.heap.size W W1) : Dj w W1 B b n m1 m2 m e := ⟨h.md.below hb, blk_below h.xb hb, blk_below h.eb hb, h.fr.trans (Fr.of_below hb _)⟩
theorem Dj.alloc (h : Dj w W B b n m1 m2 m e) (o : Obj) : Dj w (W.alloc o) B b n m1 m2 m e := h.step (below_alloc (Below.refl _ _) o)
theorem Dj.drew (h : Dj w W B b n m1 m2 m e) : Dj w W.drew B b n m1 m2 m e := ⟨h.md.drew, h.xb, h.eb, h.fr.drew⟩
theorem Dj.drewN (h : Dj w W B b n m1 m2 m e) (q : Nat) : Dj w (W.drewN q) B b n m1 m2 m e := ⟨h.md.drewN q, h.xb, h.eb, h.fr.drewN q⟩
theorem Dj.cells (h : Dj w W B b n m1 m2 m e) : (∀ i, W.cell? ⟨b, i, none⟩ = (mdA m m1 m2)[i]?) ∧ (∀ i, W.cell? ⟨w.heap.size, i, none⟩ = (#[pA b] : Array Value)[i]?) ∧ (∀ i, W.cell? ⟨w.heap.size + 1, i, none⟩ = (evA e)[i]?) := ⟨fun i => h.md.cell i, fun i => blk_cell h.xb i, fun i => blk_cell h.eb i⟩
end
/-- What a model's function leaves. -/
def DoPost (w : World) (B b n m1 m2 : Nat) (p : Md × Int) (r : Ending) (w' : World) : Prop := r = .returned (.int .i64 p.2) ∧ MdIs w' B b (n + 3) p.1 m1 m2 ∧ Fr w w' (mdS b m1 m2)
theorem DoPost.of {w W : World} {B b n m1 m2 : Nat} {p q : Md × Int} (h : p = q) {v : Int} (hv : v = q.2) (hm : MdIs W B b (n + 3) q.1 m1 m2) (hf : Fr w W (mdS b m1 m2)) : DoPost w B b n m1 m2 p (.returned (.int .i64 v)) W := by
  subst h
  subst hv
  exact ⟨rfl, hm, hf⟩
set_option maxHeartbeats 4000000 in
set_option maxRecDepth 100000 in
theorem point_cancel {w : World} {B b n m1 m2 : Nat} {m : Md} (e : Ev) (hw : (Lit.int .i64 e.hn).wf = true ∧ (Lit.int .i64 e.hg).wf = true ∧ (Lit.int .i64 e.nn).wf = true ∧ (Lit.int .i64 e.ng).wf = true) (hn : n + 1 ≤ 1000000) (h : MdIs w B b n m m1 m2) (ho : e.op = 2) (hy : e.y = true) :
    Calls Try.prog 76 #[pA b, .agg (evA e), .bool (m.st e.h == 1)] w (DoPost w B b n m1 m2 (pointF m e)) := by
  have hu0 := Try.underlying125
  have hu1 := Try.underlying34
  have hu2 := Try.underlying54
  have hmf : ∀ (fn : Fn) (first cap : Array Value) (w : World), (Instr.makeFunc fn first cap).run Try.prog w = .ok (.func fn first cap) w := fun _ _ _ _ => rfl
  have HF := Aside0.mk (show pointF m e = unF (m.st e.h == 1) (m.end_ e.h 3) m by unfold pointF; rw [if_pos ⟨ho, hy⟩]; unfold unF; by_cases ha : m.st e.h = 1 <;> simp [ha])
  have q0 : (e.op == 2) = true := beq_iff_eq.2 (ho)
  have r0 : (e.op != 2) = false := bne_eq_false_iff_eq.2 (ho)
  have y0 := hy
  have HW := Aside0.mk hw
  have HN := Aside0.mk hn
  have HJ := Aside0.mk (Dj.start h e)
  have CE := Aside0.mk (fun W => end_new b e.hn e.hg 3 W)
  obtain ⟨am, ham⟩ : ∃ am, (m.st e.h == 1) = am := ⟨_, rfl⟩
  (try rw [ham] at HF); rw [ham]
  clear ham hw hn h ho hy
  go_enter Try.func76, Try.ntmps76
  go_wp2_with (first | (go_at_call 75; (with_reducible refine (CE.out _).mono ?_); rintro r w2 ⟨sb, xb, hb, rfl, h3, hb2⟩; have HE2 := Aside0.mk (And.intro h3 (HJ.out.step hb2)); clear h3 hb2) | (go_at_call 73; (with_reducible refine (un_end am 3 e.hn e.hg (by have := HN.out; omega) HW.out.1 HW.out.2.1 HE2.out.2.md HE2.out.1).mono ?_); rintro r w4 ⟨rfl, hm, hf⟩; have HM := Aside0.mk (And.intro hm (HE2.out.2.fr.trans hf)); clear hm hf))
  go_ret
  exact DoPost.of HF.out rfl HM.out.1 HM.out.2
set_option maxHeartbeats 4000000 in
set_option maxRecDepth 100000 in
theorem point_cancel_no {w : World} {B b n m1 m2 : Nat} {m : Md} (e : Ev) (hw : (Lit.int .i64 e.hn).wf = true ∧ (Lit.int .i64 e.hg).wf = true ∧ (Lit.int .i64 e.nn).wf = true ∧ (Lit.int .i64 e.ng).wf = true) (hn : n + 1 ≤ 1000000) (h : MdIs w B b n m m1 m2) (ho : e.op = 2) (hy : e.y = false) :
    Calls Try.prog 76 #[pA b, .agg (evA e), .bool (m.st e.h == 1)] w (DoPost w B b n m1 m2 (pointF m e)) := by
  have hu0 := Try.underlying125
  have hu1 := Try.underlying34
  have hu2 := Try.underlying54
  have hmf : ∀ (fn : Fn) (first cap : Array Value) (w : World), (Instr.makeFunc fn first cap).run Try.prog w = .ok (.func fn first cap) w := fun _ _ _ _ => rfl
  have HF := Aside0.mk (show pointF m e = unF (!(m.st e.h == 1)) m m by unfold pointF; rw [if_neg (by rw [hy]; simp), if_pos (.inl ho)]; unfold unF; by_cases ha : m.st e.h = 1 <;> simp [ha])
  have q0 : (e.op == 2) = true := beq_iff_eq.2 (ho)
  have r0 : (e.op != 2) = false := bne_eq_false_iff_eq.2 (ho)
  have y0 := hy
  have HW := Aside0.mk hw
  have HN := Aside0.mk hn
  have HJ := Aside0.mk (Dj.start h e)
  obtain ⟨am, ham⟩ : ∃ am, (m.st e.h == 1) = am := ⟨_, rfl⟩
  (try rw [ham] at HF); rw [ham]
  clear ham hw hn h ho hy
  go_enter Try.func76, Try.ntmps76
  go_wp2_with (first | (go_at_call 73; (with_reducible refine (un_nothing (!am) HJ.out.md).mono ?_); rintro r w4 ⟨rfl, hm, hf⟩; have HM := Aside0.mk (And.intro hm (HJ.out.fr.trans hf)); clear hm hf))
  go_ret
  exact DoPost.of HF.out rfl HM.out.1 HM.out.2
set_option maxHeartbeats 4000000 in
set_option maxRecDepth 100000 in
theorem point_stale {w : World} {B b n m1 m2 : Nat} {m : Md} (e : Ev) (hw : (Lit.int .i64 e.hn).wf = true ∧ (Lit.int .i64 e.hg).wf = true ∧ (Lit.int .i64 e.nn).wf = true ∧ (Lit.int .i64 e.ng).wf = true) (hn : n + 1 ≤ 1000000) (h : MdIs w B b n m m1 m2) (n2 : ¬ e.op = 2) (n1 : ¬ e.op = 1) (h4 : e.er = 4) :
    Calls Try.prog 76 #[pA b, .agg (evA e), .bool (m.st e.h == 1)] w (DoPost w B b n m1 m2 (pointF m e)) := by
  have hu0 := Try.underlying125
  have hu1 := Try.underlying34
  have hu2 := Try.underlying54
  have hmf : ∀ (fn : Fn) (first cap : Array Value) (w : World), (Instr.makeFunc fn first cap).run Try.prog w = .ok (.func fn first cap) w := fun _ _ _ _ => rfl
  have HF := Aside0.mk (show pointF m e = unF (!(m.st e.h == 1)) m m by unfold pointF; rw [if_neg (fun q => n2 q.1), if_pos (.inr ⟨h4, n1⟩)]; unfold unF; by_cases ha : m.st e.h = 1 <;> simp [ha])
  have q0 : (e.op == 2) = false := beq_eq_false_iff_ne.2 (n2)
  have r0 : (e.op != 2) = true := bne_iff_ne.2 (n2)
  have q1 : (e.op == 1) = false := beq_eq_false_iff_ne.2 (n1)
  have r1 : (e.op != 1) = true := bne_iff_ne.2 (n1)
  have q4 : (e.er == 4) = true := beq_iff_eq.2 (h4)
  have r4 : (e.er != 4) = false := bne_eq_false_iff_eq.2 (h4)
  have HW := Aside0.mk hw
  have HN := Aside0.mk hn
  have HJ := Aside0.mk (Dj.start h e)
  obtain ⟨am, ham⟩ : ∃ am, (m.st e.h == 1) = am := ⟨_, rfl⟩
  (try rw [ham] at HF); rw [ham]
  clear ham hw hn h n2 n1 h4
  go_enter Try.func76, Try.ntmps76
  go_wp2_with (first | (go_at_call 73; (with_reducible refine (un_nothing (!am) HJ.out.md).mono ?_); rintro r w4 ⟨rfl, hm, hf⟩; have HM := Aside0.mk (And.intro hm (HJ.out.fr.trans hf)); clear hm hf))
  go_ret
  exact DoPost.of HF.out rfl HM.out.1 HM.out.2
set_option maxHeartbeats 4000000 in
set_option maxRecDepth 100000 in
theorem point_err1 {w : World} {B b n m1 m2 : Nat} {m : Md} (e : Ev) (hw : (Lit.int .i64 e.hn).wf = true ∧ (Lit.int .i64 e.hg).wf = true ∧ (Lit.int .i64 e.nn).wf = true ∧ (Lit.int .i64 e.ng).wf = true) (hn : n + 1 ≤ 1000000) (h : MdIs w B b n m m1 m2) (ho : e.op = 1) (h0 : ¬ e.er = 0) :
    Calls Try.prog 76 #[pA b, .agg (evA e), .bool (m.st e.h == 1)] w (DoPost w B b n m1 m2 (pointF m e)) := by
  have hu0 := Try.underlying125
  have hu1 := Try.underlying34
  have hu2 := Try.underlying54
  have hmf : ∀ (fn : Fn) (first cap : Array Value) (w : World), (Instr.makeFunc fn first cap).run Try.prog w = .ok (.func fn first cap) w := fun _ _ _ _ => rfl
  have HF := Aside0.mk (show pointF m e = (m, 0) by unfold pointF; rw [if_neg (fun q => by omega), if_neg (by omega), if_pos h0])
  have q0 : (e.op == 2) = false := beq_eq_false_iff_ne.2 (by omega)
  have r0 : (e.op != 2) = true := bne_iff_ne.2 (by omega)
  have q1 : (e.op == 1) = true := beq_iff_eq.2 (ho)
  have r1 : (e.op != 1) = false := bne_eq_false_iff_eq.2 (ho)
  have q4 : (e.er == 0) = false := beq_eq_false_iff_ne.2 (h0)
  have r4 : (e.er != 0) = true := bne_iff_ne.2 (h0)
  have HW := Aside0.mk hw
  have HN := Aside0.mk hn
  have HJ := Aside0.mk (Dj.start h e)
  obtain ⟨am, ham⟩ : ∃ am, (m.st e.h == 1) = am := ⟨_, rfl⟩
  (try rw [ham] at HF); rw [ham]
  clear ham hw hn h ho h0
  go_enter Try.func76, Try.ntmps76
  by_cases g4 : (e.er == 4) = true
  · go_wp2
    go_ret
    exact DoPost.of HF.out rfl (HJ.out.md.up (by omega)) HJ.out.fr
  · have g4 : (e.er == 4) = false := by simpa using g4
    go_wp2
    go_ret
    exact DoPost.of HF.out rfl (HJ.out.md.up (by omega)) HJ.out.fr
set_option maxHeartbeats 4000000 in
set_option maxRecDepth 100000 in
theorem point_err {w : World} {B b n m1 m2 : Nat} {m : Md} (e : Ev) (hw : (Lit.int .i64 e.hn).wf = true ∧ (Lit.int .i64 e.hg).wf = true ∧ (Lit.int .i64 e.nn).wf = true ∧ (Lit.int .i64 e.ng).wf = true) (hn : n + 1 ≤ 1000000) (h : MdIs w B b n m m1 m2) (n2 : ¬ e.op = 2) (h0 : ¬ e.er = 0) (h4 : ¬ e.er = 4) :
    Calls Try.prog 76 #[pA b, .agg (evA e), .bool (m.st e.h == 1)] w (DoPost w B b n m1 m2 (pointF m e)) := by
  have hu0 := Try.underlying125
  have hu1 := Try.underlying34
  have hu2 := Try.underlying54
  have hmf : ∀ (fn : Fn) (first cap : Array Value) (w : World), (Instr.makeFunc fn first cap).run Try.prog w = .ok (.func fn first cap) w := fun _ _ _ _ => rfl
  have HF := Aside0.mk (show pointF m e = (m, 0) by unfold pointF; rw [if_neg (fun q => n2 q.1), if_neg (by omega), if_pos h0])
  have q0 : (e.op == 2) = false := beq_eq_false_iff_ne.2 (n2)
  have r0 : (e.op != 2) = true := bne_iff_ne.2 (n2)
  have q1 : (e.er == 4) = false := beq_eq_false_iff_ne.2 (h4)
  have r1 : (e.er != 4) = true := bne_iff_ne.2 (h4)
  have q4 : (e.er == 0) = false := beq_eq_false_iff_ne.2 (h0)
  have r4 : (e.er != 0) = true := bne_iff_ne.2 (h0)
  have HW := Aside0.mk hw
  have HN := Aside0.mk hn
  have HJ := Aside0.mk (Dj.start h e)
  obtain ⟨am, ham⟩ : ∃ am, (m.st e.h == 1) = am := ⟨_, rfl⟩
  (try rw [ham] at HF); rw [ham]
  clear ham hw hn h n2 h0 h4
  go_enter Try.func76, Try.ntmps76
  go_wp2
  go_ret
  exact DoPost.of HF.out rfl (HJ.out.md.up (by omega)) HJ.out.fr
set_option maxHeartbeats 4000000 in
set_option maxRecDepth 100000 in
theorem point_migrate {w : World} {B b n m1 m2 : Nat} {m : Md} (e : Ev) (hw : (Lit.int .i64 e.hn).wf = true ∧ (Lit.int .i64 e.hg).wf = true ∧ (Lit.int .i64 e.nn).wf = true ∧ (Lit.int .i64 e.ng).wf = true) (hn : n + 1 ≤ 1000000) (h : MdIs w B b n m m1 m2) (ho : e.op = 4) (h0 : e.er = 0) :
    Calls Try.prog 76 #[pA b, .agg (evA e), .bool (m.st e.h == 1)] w (DoPost w B b n m1 m2 (pointF m e)) := by
  have hu0 := Try.underlying125
  have hu1 := Try.underlying34
  have hu2 := Try.underlying54
  have hmf : ∀ (fn : Fn) (first cap : Array Value) (w : World), (Instr.makeFunc fn first cap).run Try.prog w = .ok (.func fn first cap) w := fun _ _ _ _ => rfl
  have HF := Aside0.mk (show pointF m e = unF (m.st e.h == 1) m m by unfold pointF; rw [if_neg (by omega), if_neg (by omega), if_neg (by omega), if_neg (by omega), if_pos ho]; unfold unF; by_cases ha : m.st e.h = 1 <;> simp [ha])
  have q0 : (e.op == 2) = false := beq_eq_false_iff_ne.2 (by omega)
  have r0 : (e.op != 2) = true := bne_iff_ne.2 (by omega)
  have q1 : (e.op == 1) = false := beq_eq_false_iff_ne.2 (by omega)
  have r1 : (e.op != 1) = true := bne_iff_ne.2 (by omega)
  have q2 : (e.op == 4) = true := beq_iff_eq.2 (ho)
  have r2 : (e.op != 4) = false := bne_eq_false_iff_eq.2 (ho)
  have q5 : (e.er == 4) = false := beq_eq_false_iff_ne.2 (by omega)
  have r5 : (e.er != 4) = true := bne_iff_ne.2 (by omega)
  have q4 : (e.er == 0) = true := beq_iff_eq.2 (h0)
  have r4 : (e.er != 0) = false := bne_eq_false_iff_eq.2 (h0)
  have HW := Aside0.mk hw
  have HN := Aside0.mk hn
  have HJ := Aside0.mk (Dj.start h e)
  obtain ⟨am, ham⟩ : ∃ am, (m.st e.h == 1) = am := ⟨_, rfl⟩
  (try rw [ham] at HF); rw [ham]
  clear ham hw hn h ho h0
  go_enter Try.func76, Try.ntmps76
  go_wp2_with (first | (go_at_call 73; (with_reducible refine (un_nothing am HJ.out.md).mono ?_); rintro r w4 ⟨rfl, hm, hf⟩; have HM := Aside0.mk (And.intro hm (HJ.out.fr.trans hf)); clear hm hf))
  go_ret
  exact DoPost.of HF.out rfl HM.out.1 HM.out.2
set_option maxHeartbeats 4000000 in
set_option maxRecDepth 100000 in
theorem point_rearm_node {w : World} {B b n m1 m2 : Nat} {m : Md} (e : Ev) (hw : (Lit.int .i64 e.hn).wf = true ∧ (Lit.int .i64 e.hg).wf = true ∧ (Lit.int .i64 e.nn).wf = true ∧ (Lit.int .i64 e.ng).wf = true) (hn : n + 1 ≤ 1000000) (h : MdIs w B b n m m1 m2) (n2 : ¬ e.op = 2) (n1 : ¬ e.op = 1) (n4 : ¬ e.op = 4) (h0 : e.er = 0) (hx : ¬ e.nn = e.hn) :
    Calls Try.prog 76 #[pA b, .agg (evA e), .bool (m.st e.h == 1)] w (DoPost w B b n m1 m2 (pointF m e)) := by
  have hu0 := Try.underlying125
  have hu1 := Try.underlying34
  have hu2 := Try.underlying54
  have hmf : ∀ (fn : Fn) (first cap : Array Value) (w : World), (Instr.makeFunc fn first cap).run Try.prog w = .ok (.func fn first cap) w := fun _ _ _ _ => rfl
  have HF := Aside0.mk (show pointF m e = unF false ((m.end_ e.h 4).arm e.new e.t) m by unfold pointF; rw [if_neg (by omega), if_neg (by omega), if_neg (by omega), if_neg n1, if_neg n4]; rw [if_neg (fun q => hx q.2.1)]; rfl)
  have q0 : (e.op == 2) = false := beq_eq_false_iff_ne.2 (n2)
  have r0 : (e.op != 2) = true := bne_iff_ne.2 (n2)
  have q1 : (e.op == 1) = false := beq_eq_false_iff_ne.2 (n1)
  have r1 : (e.op != 1) = true := bne_iff_ne.2 (n1)
  have q2 : (e.op == 4) = false := beq_eq_false_iff_ne.2 (n4)
  have r2 : (e.op != 4) = true := bne_iff_ne.2 (n4)
  have q5 : (e.er == 4) = false := beq_eq_false_iff_ne.2 (by omega)
  have r5 : (e.er != 4) = true := bne_iff_ne.2 (by omega)
  have q4 : (e.er == 0) = true := beq_iff_eq.2 (h0)
  have r4 : (e.er != 0) = false := bne_eq_false_iff_eq.2 (h0)
  have g0 : (e.nn == e.hn) = false := beq_eq_false_iff_ne.2 (hx)
  have HW := Aside0.mk hw
  have HN := Aside0.mk hn
  have HJ := Aside0.mk (Dj.start h e)
  obtain ⟨am, ham⟩ : ∃ am, (m.st e.h == 1) = am := ⟨_, rfl⟩
  (try rw [ham] at HF); rw [ham]
  clear ham hw hn h n2 n1 n4 h0 hx
  cases am with
  | true =>
    go_enter Try.func76, Try.ntmps76
    go_wp2_with (first | (go_at_call 73; (with_reducible refine (un_rearm false HN.out HW.out.2.2.1 HW.out.2.2.2 HW.out.1 HW.out.2.1 HJ.out.md HJ.out.eb HJ.out.xb).mono ?_); rintro r w4 ⟨rfl, hm, hf⟩; have HM := Aside0.mk (And.intro hm (HJ.out.fr.trans hf)); clear hm hf))
    go_ret
    exact DoPost.of (HF.out.trans (by rfl)) rfl HM.out.1 HM.out.2
  | false =>
    go_enter Try.func76, Try.ntmps76
    go_wp2_with (first | (go_at_call 73; (with_reducible refine (un_rearm false HN.out HW.out.2.2.1 HW.out.2.2.2 HW.out.1 HW.out.2.1 HJ.out.md HJ.out.eb HJ.out.xb).mono ?_); rintro r w4 ⟨rfl, hm, hf⟩; have HM := Aside0.mk (And.intro hm (HJ.out.fr.trans hf)); clear hm hf))
    go_ret
    exact DoPost.of (HF.out.trans (by rfl)) rfl HM.out.1 HM.out.2
set_option maxHeartbeats 4000000 in
set_option maxRecDepth 100000 in
theorem point_rearm {w : World} {B b n m1 m2 : Nat} {m : Md} (e : Ev) (hw : (Lit.int .i64 e.hn).wf = true ∧ (Lit.int .i64 e.hg).wf = true ∧ (Lit.int .i64 e.nn).wf = true ∧ (Lit.int .i64 e.ng).wf = true) (hn : n + 1 ≤ 1000000) (h : MdIs w B b n m m1 m2) (n2 : ¬ e.op = 2) (n1 : ¬ e.op = 1) (n4 : ¬ e.op = 4) (h0 : e.er = 0) (hx : e.nn = e.hn) :
    Calls Try.prog 76 #[pA b, .agg (evA e), .bool (m.st e.h == 1)] w (DoPost w B b n m1 m2 (pointF m e)) := by
  have hu0 := Try.underlying125
  have hu1 := Try.underlying34
  have hu2 := Try.underlying54
  have hmf : ∀ (fn : Fn) (first cap : Array Value) (w : World), (Instr.makeFunc fn first cap).run Try.prog w = .ok (.func fn first cap) w := fun _ _ _ _ => rfl
  have HF := Aside0.mk (show pointF m e = unF ((m.st e.h == 1) && (e.ng == wrap64 (e.hg + 1))) ((m.end_ e.h 4).arm e.new e.t) m by unfold pointF; rw [if_neg (by omega), if_neg (by omega), if_neg (by omega), if_neg n1, if_neg n4]; unfold unF; by_cases ha : m.st e.h = 1 <;> by_cases hb : e.ng = wrap64 (e.hg + 1) <;> simp [ha, hb, hx])
  have q0 : (e.op == 2) = false := beq_eq_false_iff_ne.2 (n2)
  have r0 : (e.op != 2) = true := bne_iff_ne.2 (n2)
  have q1 : (e.op == 1) = false := beq_eq_false_iff_ne.2 (n1)
  have r1 : (e.op != 1) = true := bne_iff_ne.2 (n1)
  have q2 : (e.op == 4) = false := beq_eq_false_iff_ne.2 (n4)
  have r2 : (e.op != 4) = true := bne_iff_ne.2 (n4)
  have q5 : (e.er == 4) = false := beq_eq_false_iff_ne.2 (by omega)
  have r5 : (e.er != 4) = true := bne_iff_ne.2 (by omega)
  have q4 : (e.er == 0) = true := beq_iff_eq.2 (h0)
  have r4 : (e.er != 0) = false := bne_eq_false_iff_eq.2 (h0)
  have g0 : (e.nn == e.hn) = true := beq_iff_eq.2 (hx)
  have HW := Aside0.mk hw
  have HN := Aside0.mk hn
  have HJ := Aside0.mk (Dj.start h e)
  obtain ⟨am, ham⟩ : ∃ am, (m.st e.h == 1) = am := ⟨_, rfl⟩
  (try rw [ham] at HF); rw [ham]
  clear ham hw hn h n2 n1 n4 h0 hx
  cases am with
  | true =>
    go_enter Try.func76, Try.ntmps76
    go_wp2_with (first | (go_at_call 73; (with_reducible refine (un_rearm (e.ng == wrap64 (e.hg + 1)) HN.out HW.out.2.2.1 HW.out.2.2.2 HW.out.1 HW.out.2.1 HJ.out.md HJ.out.eb HJ.out.xb).mono ?_); rintro r w4 ⟨rfl, hm, hf⟩; have HM := Aside0.mk (And.intro hm (HJ.out.fr.trans hf)); clear hm hf))
    go_ret
    exact DoPost.of (HF.out.trans (by rfl)) rfl HM.out.1 HM.out.2
  | false =>
    go_enter Try.func76, Try.ntmps76
    go_wp2_with (first | (go_at_call 73; (with_reducible refine (un_rearm false HN.out HW.out.2.2.1 HW.out.2.2.2 HW.out.1 HW.out.2.1 HJ.out.md HJ.out.eb HJ.out.xb).mono ?_); rintro r w4 ⟨rfl, hm, hf⟩; have HM := Aside0.mk (And.intro hm (HJ.out.fr.trans hf)); clear hm hf))
    go_ret
    exact DoPost.of (HF.out.trans (by rfl)) rfl HM.out.1 HM.out.2
set_option maxHeartbeats 4000000 in
set_option maxRecDepth 100000 in
theorem point_start {w : World} {B b n m1 m2 : Nat} {m : Md} (e : Ev) (hw : (Lit.int .i64 e.hn).wf = true ∧ (Lit.int .i64 e.hg).wf = true ∧ (Lit.int .i64 e.nn).wf = true ∧ (Lit.int .i64 e.ng).wf = true) (hn : n + 1 ≤ 1000000) (hwl : ∀ x, (Lit.int .i64 ((m.lst x).getD 0)).wf = true) (h : MdIs w B b n m m1 m2) (ho : e.op = 1) (h0 : e.er = 0) :
    Calls Try.prog 76 #[pA b, .agg (evA e), .bool (m.st e.h == 1)] w (DoPost w B b n m1 m2 (pointF m e)) := by
  have hu0 := Try.underlying125
  have hu1 := Try.underlying34
  have hu2 := Try.underlying54
  have hmf : ∀ (fn : Fn) (first cap : Array Value) (w : World), (Instr.makeFunc fn first cap).run Try.prog w = .ok (.func fn first cap) w := fun _ _ _ _ => rfl
  have HF := Aside0.mk (show pointF m e = unF (!(m.lst e.nn).isSome || (m.st (e.nn, (m.lst e.nn).getD 0) != 1 && decide ((m.lst e.nn).getD 0 < e.ng))) (m.arm e.new e.t) m by unfold pointF Md.startOk; rw [if_neg (by omega), if_neg (by omega), if_neg (by omega), if_pos ho]; rfl)
  have q0 : (e.op == 2) = false := beq_eq_false_iff_ne.2 (by omega)
  have r0 : (e.op != 2) = true := bne_iff_ne.2 (by omega)
  have q1 : (e.op == 1) = true := beq_iff_eq.2 (ho)
  have r1 : (e.op != 1) = false := bne_eq_false_iff_eq.2 (ho)
  have q5 : (e.er == 4) = false := beq_eq_false_iff_ne.2 (by omega)
  have r5 : (e.er != 4) = true := bne_iff_ne.2 (by omega)
  have q4 : (e.er == 0) = true := beq_iff_eq.2 (h0)
  have r4 : (e.er != 0) = false := bne_eq_false_iff_eq.2 (h0)
  have HW := Aside0.mk hw
  have HN := Aside0.mk hn
  have HJ := Aside0.mk (Dj.start h e)
  obtain ⟨am, ham⟩ : ∃ am, (m.st e.h == 1) = am := ⟨_, rfl⟩
  rw [ham]
  clear ham hw hn h ho h0
  have hl := fun q => HJ.out.md.lookL HW.out.2.2.1 (((w.alloc (.cells #[pA b] 58)).alloc (.cells (evA e) 54)).drewN q) rfl
  obtain ⟨ls, hls⟩ : ∃ ls, m.lst e.nn = ls := ⟨_, rfl⟩
  rw [hls] at hl HF
  obtain ⟨g, hg⟩ : ∃ g, ls.getD 0 = g := ⟨_, rfl⟩
  obtain ⟨md, hmd⟩ : ∃ md, ls.isSome = md := ⟨_, rfl⟩
  have HG := Aside0.mk (show (Lit.int .i64 g).wf = true by rw [← hg, ← hls]; exact hwl e.nn)
  rw [hg, hmd] at hl HF
  have CS : Aside0 (∀ W, Dj w W B b n m1 m2 m e → Calls Try.prog 33 #[pA b, .agg #[.int .i64 e.nn, .int .i64 g]] W fun r w' => r = .returned (.int .i64 (m.st (e.nn, g))) ∧ Below W.heap.size W w') := ⟨fun W hW => model_status e.nn g HW.out.2.2.1 HG.out hW.md⟩
  obtain ⟨sg, hsg⟩ : ∃ sg, m.st (e.nn, g) = sg := ⟨_, rfl⟩
  rw [hsg] at CS HF
  have HOK := HF
  clear hg hmd hls hsg hwl HF
  have hcx := fun i => blk_cell HJ.out.xb i; have hce := fun i => blk_cell HJ.out.eb i; have hlx := blk_lt HJ.out.xb; have hle := blk_lt HJ.out.eb; have hcm := fun i => HJ.out.md.cell i; have hlm := HJ.out.md.lt
  go_enter Try.func76, Try.ntmps76
  go_wp2
  go_quiet (fail)
  clear hl
  cases md with
  | false =>
    go_wp2_with (first | (go_at_call 33; (with_reducible refine (CS.out _ (HJ.out.drewN _)).mono ?_); rintro r w2 ⟨rfl, hb2⟩; have HJ2 := Aside0.mk ((HJ.out.drewN _).step hb2); clear hb2 hcx hce hlx hle hcm hlm; have HJ := HJ2; have hcx := fun i => blk_cell HJ.out.xb i; have hce := fun i => blk_cell HJ.out.eb i; have hlx := blk_lt HJ.out.xb; have hle := blk_lt HJ.out.eb; have hcm := fun i => HJ.out.md.cell i; have hlm := HJ.out.md.lt) | (go_at_call 73; (with_reducible refine (un_start true (by have := HN.out; omega) HW.out.2.2.1 HW.out.2.2.2 HJ2.out.md HJ2.out.eb HJ2.out.xb).mono ?_); rintro r w4 ⟨rfl, hm, hf⟩; have HM := Aside0.mk (And.intro hm (HJ2.out.fr.trans hf)); clear hm hf))
    go_ret
    exact DoPost.of (HOK.out.trans (by rfl)) rfl HM.out.1 HM.out.2
  | true =>
    by_cases hs1 : sg = 1
    · have g1 : (sg != 1) = false := bne_eq_false_iff_eq.2 (hs1)
      have HS1 := Aside0.mk g1
      clear hs1
      go_wp2_with (first | (go_at_call 33; (with_reducible refine (CS.out _ (HJ.out.drewN _)).mono ?_); rintro r w2 ⟨rfl, hb2⟩; have HJ2 := Aside0.mk ((HJ.out.drewN _).step hb2); clear hb2 hcx hce hlx hle hcm hlm; have HJ := HJ2; have hcx := fun i => blk_cell HJ.out.xb i; have hce := fun i => blk_cell HJ.out.eb i; have hlx := blk_lt HJ.out.xb; have hle := blk_lt HJ.out.eb; have hcm := fun i => HJ.out.md.cell i; have hlm := HJ.out.md.lt) | (go_at_call 73; (with_reducible refine (un_start false (by have := HN.out; omega) HW.out.2.2.1 HW.out.2.2.2 HJ2.out.md HJ2.out.eb HJ2.out.xb).mono ?_); rintro r w4 ⟨rfl, hm, hf⟩; have HM := Aside0.mk (And.intro hm (HJ2.out.fr.trans hf)); clear hm hf))
      go_ret
      exact DoPost.of (HOK.out.trans (by rw [HS1.out]; rfl)) rfl HM.out.1 HM.out.2
    · have g1 : (sg != 1) = true := bne_iff_ne.2 (hs1)
      have HS1 := Aside0.mk g1
      clear hs1
      go_wp2_with (first | (go_at_call 33; (with_reducible refine (CS.out _ (HJ.out.drewN _)).mono ?_); rintro r w2 ⟨rfl, hb2⟩; have HJ2 := Aside0.mk ((HJ.out.drewN _).step hb2); clear hb2 hcx hce hlx hle hcm hlm; have HJ := HJ2; have hcx := fun i => blk_cell HJ.out.xb i; have hce := fun i => blk_cell HJ.out.eb i; have hlx := blk_lt HJ.out.xb; have hle := blk_lt HJ.out.eb; have hcm := fun i => HJ.out.md.cell i; have hlm := HJ.out.md.lt) | (go_at_call 73; (with_reducible refine (un_start (decide (g < e.ng)) (by have := HN.out; omega) HW.out.2.2.1 HW.out.2.2.2 HJ2.out.md HJ2.out.eb HJ2.out.xb).mono ?_); rintro r w4 ⟨rfl, hm, hf⟩; have HM := Aside0.mk (And.intro hm (HJ2.out.fr.trans hf)); clear hm hf))
      go_ret
      exact DoPost.of (HOK.out.trans (by rw [HS1.out]; rfl)) rfl HM.out.1 HM.out.2
theorem point_any {w : World} {B b n m1 m2 : Nat} {m : Md} (e : Ev) (hw : (Lit.int .i64 e.hn).wf = true ∧ (Lit.int .i64 e.hg).wf = true ∧ (Lit.int .i64 e.nn).wf = true ∧ (Lit.int .i64 e.ng).wf = true) (hn : n + 1 ≤ 1000000) (hwl : ∀ x, (Lit.int .i64 ((m.lst x).getD 0)).wf = true) (h : MdIs w B b n m m1 m2) :
    Calls Try.prog 76 #[pA b, .agg (evA e), .bool (m.st e.h == 1)] w (DoPost w B b n m1 m2 (pointF m e)) := by
  by_cases n2 : e.op = 2
  · cases hy : e.y with
    | true => exact point_cancel e hw hn h n2 hy
    | false => exact point_cancel_no e hw hn h n2 hy
  by_cases h0 : e.er = 0
  · by_cases n1 : e.op = 1
    · exact point_start e hw hn hwl h n1 h0
    by_cases n4 : e.op = 4
    · exact point_migrate e hw hn h n4 h0
    by_cases hx : e.nn = e.hn
    · exact point_rearm e hw hn h n2 n1 n4 h0 hx
    · exact point_rearm_node e hw hn h n2 n1 n4 h0 hx
  · by_cases n1 : e.op = 1
    · exact point_err1 e hw hn h n1 h0
    · by_cases h4 : e.er = 4
      · exact point_stale e hw hn h n2 n1 h4
      · exact point_err e hw hn h n2 h0 h4
end Go.Proofs.Ythniclbmpeklmaa.Ju
end
section
namespace Go.Proofs.Ythniclbmpeklmaa.Ju
open Go.RowKit Go.Maps Go.Proofs.YthniclbmpeklmaaW.PrintWords Go.Proofs.YthniclbmpeklmaaW.PrintLast Go.Proofs.YthniclbmpeklmaaW.PrintMore Go.Proofs.Ythniclbmpeklmaa.Mp Go.Proofs.Ythniclbmpeklmaa.Au
set_option linter.unusedVariables false
set_option linter.unusedSimpArgs false
theorem right_run (e : Ev) (W : World) : Calls Try.prog 65 #[.agg (evA e)] W fun r w' => r = .returned (.bool (rightJ e)) ∧ Below W.heap.size W w' := Ev.event_right e.k e.wk e.op e.hn e.hg e.nn e.ng e.t e.a e.u e.y e.er W
theorem gen_world' {P : Program} {c : Code} {Q : Exit → Act → World → Prop} {a : Act} {w : World} (R : World → Prop) (h : R w) (k : ∀ W, R W → c.wp P Q a W) : c.wp P Q a w := k w h
/-- The fate that is looked up lies in a block of its own. -/
structure Dk (w W : World) (B b n m1 m2 : Nat) (m : Md) (e : Ev) (fb : Nat) : Prop where
  dj : Dj w W B b n m1 m2 m e
  fb : W.heap[fb]? = some (.cells #[.int .i64 (m.st e.h), .int .i64 (m.dl e.h)] 122 (0, 0))
section
variable {w W W1 : World} {B b n m1 m2 fb : Nat} {m : Md} {e : Ev}
theorem Dk.step (h : Dk w W B b n m1 m2 m e fb) (hb : Below W.heap.size W W1) : Dk w W1 B b n m1 m2 m e fb := ⟨h.dj.step hb, blk_below h.fb hb⟩
theorem Dk.drew (h : Dk w W B b n m1 m2 m e fb) : Dk w W.drew B b n m1 m2 m e fb := ⟨h.dj.drew, h.fb⟩
theorem Dk.cells (h : Dk w W B b n m1 m2 m e fb) : (∀ i, W.cell? ⟨b, i, none⟩ = (mdA m m1 m2)[i]?) ∧ (∀ i, W.cell? ⟨w.heap.size, i, none⟩ = (#[pA b] : Array Value)[i]?) ∧ (∀ i, W.cell? ⟨w.heap.size + 1, i, none⟩ = (evA e)[i]?) ∧ (∀ i, W.cell? ⟨fb, i, none⟩ = (#[.int .i64 (m.st e.h), .int .i64 (m.dl e.h)] : Array Value)[i]?) := ⟨h.dj.cells.1, h.dj.cells.2.1, h.dj.cells.2.2, fun i => blk_cell h.fb i⟩
end
def doR.T7 : Bool × List (List Nat × List Nat) := (true, [([], []), ([0], [0]), ([], []), ([2], [2]), ([3], [3]), ([4], [4]), ([5], [5]), ([1, 6], [1, 6]), ([], []), ([7, 8], [7, 8]), ([9, 9, 0, 1, 2, 3, 4, 5, 6, 7, 8, 9], [9])])
def doR.B7 : List Nat := [0, 1, 0, 4, 12, 28, 60, 127, 0, 511, 1023]
theorem doR.tab7 : rtab .any (opsOf Try.f43 7) = doR.T7 := by kernel_rfl
theorem doR.bits7 : waitsOk doR.T7.2 doR.B7 = true := by kernel_rfl
def doR.T9 : Bool × List (List Nat × List Nat) := (true, [([], []), ([0], [0]), ([1], [1]), ([2, 1], [1, 2]), ([1], [1]), ([4, 1], [1, 4]), ([3, 5, 1], [1, 3, 5]), ([1, 6], [1, 6]), ([7, 1], [7]), ([8], [8]), ([9, 8], [8, 9]), ([8], [8]), ([11, 8], [8, 11]), ([12, 8], [8, 12]), ([13, 8], [8, 13]), ([10, 14, 8], [8, 10, 14]), ([8, 15], [8, 15]), ([], []), ([], []), ([18], [18]), ([17, 19, 8], [17, 19]), ([16, 20, 20], [16, 20]), ([21, 21, 0, 1, 2, 3, 4, 5, 6, 7, 8, 9, 10, 11, 12, 13, 14, 15, 16, 17, 18, 19, 20, 21], [21])])
def doR.B9 : List Nat := [0, 1, 3, 7, 3, 19, 63, 127, 255, 511, 1023, 511, 2559, 6655, 14847, 32767, 65535, 0, 0, 262144, 918015, 2097151, 4194303]
theorem doR.tab9 : rtab .any (opsOf Try.f43 9) = doR.T9 := by kernel_rfl
theorem doR.bits9 : waitsOk doR.T9.2 doR.B9 = true := by kernel_rfl
def doR.T3 : Bool × List (List Nat × List Nat) := (true, [([], []), ([0], [0]), ([1], [1]), ([2], [2]), ([], []), ([4], [4]), ([3, 5], [3, 5]), ([], []), ([7, 6, 0, 1, 2, 3, 4, 5, 6, 7], [6, 7])])
def doR.B3 : List Nat := [0, 1, 3, 7, 0, 16, 63, 0, 255]
theorem doR.tab3 : rtab .any (opsOf Try.f43 3) = doR.T3 := by kernel_rfl
theorem doR.bits3 : waitsOk doR.T3.2 doR.B3 = true := by kernel_rfl
set_option maxHeartbeats 4000000 in
set_option maxRecDepth 100000 in
theorem do_wrong {w : World} {B b n m1 m2 : Nat} {m : Md} (e : Ev) (hw : (Lit.int .i64 e.hn).wf = true ∧ (Lit.int .i64 e.hg).wf = true ∧ (Lit.int .i64 e.nn).wf = true ∧ (Lit.int .i64 e.ng).wf = true) (hn : n + 1 ≤ 1000000) (hwl : ∀ x, (Lit.int .i64 ((m.lst x).getD 0)).wf = true) (h : MdIs w B b n m m1 m2) (hr : rightJ e = false) :
    Calls Try.prog 43 #[pA b, .agg (evA e)] w (DoPost w B b n m1 m2 (doF m e)) := by
  have hu0 := Try.underlying125
  have hu1 := Try.underlying34
  have hu2 := Try.underlying54
  have hu3 := Try.underlying122
  have hmf : ∀ (fn : Fn) (first cap : Array Value) (w : World), (Instr.makeFunc fn first cap).run Try.prog w = .ok (.func fn first cap) w := fun _ _ _ _ => rfl
  have HF := Aside0.mk (show doF m e = (m, 8) by unfold doF; rw [if_pos hr])
  have CR := Aside0.mk (fun W => right_run e W)
  rw [hr] at CR
  have HW := Aside0.mk hw
  have HN := Aside0.mk hn
  have HWL := Aside0.mk hwl
  have HJ := Aside0.mk (Dj.start h e)
  clear hw hn hwl h hr
  have hcx := fun i => blk_cell HJ.out.xb i
  have hce := fun i => blk_cell HJ.out.eb i
  have hlx := blk_lt HJ.out.xb
  have hle := blk_lt HJ.out.eb
  have hcm := fun i => HJ.out.md.cell i
  have hlm := HJ.out.md.lt
  go_enter Try.func43, Try.ntmps43
  go_wp2_with (first | (go_at_call 65; (with_reducible refine (CR.out _).mono ?_); rintro r w2 ⟨rfl, hb2⟩; have HJ2 := Aside0.mk (HJ.out.step hb2); clear hb2 hcx hce hlx hle hcm hlm; have HJ := HJ2; have hcx := fun i => blk_cell HJ.out.xb i; have hce := fun i => blk_cell HJ.out.eb i; have hlx := blk_lt HJ.out.xb; have hle := blk_lt HJ.out.eb; have hcm := fun i => HJ.out.md.cell i; have hlm := HJ.out.md.lt))
  go_ret
  exact DoPost.of HF.out rfl (HJ.out.md.up (by omega)) HJ.out.fr
set_option maxHeartbeats 4000000 in
set_option maxRecDepth 100000 in
theorem do_other {w : World} {B b n m1 m2 : Nat} {m : Md} (e : Ev) (hw : (Lit.int .i64 e.hn).wf = true ∧ (Lit.int .i64 e.hg).wf = true ∧ (Lit.int .i64 e.nn).wf = true ∧ (Lit.int .i64 e.ng).wf = true) (hn : n + 1 ≤ 1000000) (hwl : ∀ x, (Lit.int .i64 ((m.lst x).getD 0)).wf = true) (h : MdIs w B b n m m1 m2) (hr : rightJ e = true) (hk : e.k = 2 ∨ e.k = 5) :
    Calls Try.prog 43 #[pA b, .agg (evA e)] w (DoPost w B b n m1 m2 (doF m e)) := by
  have hu0 := Try.underlying125
  have hu1 := Try.underlying34
  have hu2 := Try.underlying54
  have hu3 := Try.underlying122
  have hmf : ∀ (fn : Fn) (first cap : Array Value) (w : World), (Instr.makeFunc fn first cap).run Try.prog w = .ok (.func fn first cap) w := fun _ _ _ _ => rfl
  have HF := Aside0.mk (show doF m e = (m, 8) by unfold doF; rw [if_neg (by rw [hr]; simp), if_neg (by omega), if_neg (by omega), if_neg (by omega)])
  have k1 : (e.k == 1) = false := beq_eq_false_iff_ne.2 (by omega)
  have k4 : (e.k == 4) = false := beq_eq_false_iff_ne.2 (by omega)
  have k3 : (e.k == 3) = false := beq_eq_false_iff_ne.2 (by omega)
  have CR := Aside0.mk (fun W => right_run e W)
  rw [hr] at CR
  have HW := Aside0.mk hw
  have HN := Aside0.mk hn
  have HWL := Aside0.mk hwl
  have HJ := Aside0.mk (Dj.start h e)
  clear hw hn hwl h hr hk
  have hcx := fun i => blk_cell HJ.out.xb i
  have hce := fun i => blk_cell HJ.out.eb i
  have hlx := blk_lt HJ.out.xb
  have hle := blk_lt HJ.out.eb
  have hcm := fun i => HJ.out.md.cell i
  have hlm := HJ.out.md.lt
  go_enter Try.func43, Try.ntmps43
  go_wp2_with (first | (go_at_call 65; (with_reducible refine (CR.out _).mono ?_); rintro r w2 ⟨rfl, hb2⟩; have HJ2 := Aside0.mk (HJ.out.step hb2); clear hb2 hcx hce hlx hle hcm hlm; have HJ := HJ2; have hcx := fun i => blk_cell HJ.out.xb i; have hce := fun i => blk_cell HJ.out.eb i; have hlx := blk_lt HJ.out.xb; have hle := blk_lt HJ.out.eb; have hcm := fun i => HJ.out.md.cell i; have hlm := HJ.out.md.lt))
  obtain ⟨kl, hkl⟩ := keyH e.hn e.hg HW.out.1 HW.out.2.1
  refine start_ (n := 9) (S := (fun w' => (∀ i, w'.cell? ⟨b, i, none⟩ = (mdA m m1 m2)[i]?) ∧ (∀ i, w'.cell? ⟨w.heap.size, i, none⟩ = (#[pA b] : Array Value)[i]?) ∧ (∀ i, w'.cell? ⟨w.heap.size + 1, i, none⟩ = (evA e)[i]?) ∧ (Instr.lookup 123 (.map (some m1)) (haV e.h) false).run Try.prog w' = .ok (.agg #[.int .i64 (m.st e.h), .int .i64 (m.dl e.h)]) w')) (ds := [8]) #[false, false, false, false, false, false, false, false, false] (by kernel_rfl) rfl rfl ⟨HJ.out.drew.cells.1, HJ.out.drew.cells.2.1, HJ.out.drew.cells.2.2, HJ.out.drew.md.look hkl _ rfl⟩ (fun hHeld => ?_)
  refine with_tabW doR.tab3 doR.bits3 (fun HT_ HW_ => ?_)
  have HJ3 := Aside0.mk HJ.out.drew
  generalize World.drew _ = w3 at HJ3 hHeld ⊢
  clear HJ hcx hce hlx hle hcm hlm
  have hlx := blk_lt HJ3.out.xb
  have hle := blk_lt HJ3.out.eb
  have hlm := HJ3.out.md.lt
  refine pure_ (i := 4) (N := (some 14)) (v := ?_) (a' := ?_) #[false, false, false, false, true, false, false, false, false] rfl rfl (any_of HT_.out (by kernel_rfl)) (fun _ _ _ h => h) (Or.inl ⟨by rfl, ?_⟩) ?_ ?_
  rotate_left
  · intro w'
    go_simp
    with_reducible rfl
  rotate_left
  · simp only [Act.put, List.setIfInBounds_toArray, List.set_cons_zero, List.set_cons_succ, i64_w, i32_w]
    rfl
  refine take_ (i := 0) (N := (some 10)) (v := ?_) (a' := ?_) #[true, false, false, false, true, false, false, false, false] rfl rfl (take_ofW HT_.out HW_.out (by kernel_rfl)) (fun _ _ _ h => h) (Or.inl ⟨by rfl, ?_⟩) hHeld ?_ ?_
  rotate_left
  · rintro w' ⟨s0, s1, s2, s3⟩
    go_simp
    with_reducible rfl
  rotate_left
  · simp only [Act.put, List.setIfInBounds_toArray, List.set_cons_zero, List.set_cons_succ, i64_w, i32_w]
    rfl
  refine pure_ (i := 1) (N := (some 11)) (v := ?_) (a' := ?_) #[true, true, false, false, true, false, false, false, false] rfl rfl (any_of HT_.out (by kernel_rfl)) (fun _ _ _ h => h) (Or.inl ⟨by rfl, ?_⟩) ?_ ?_
  rotate_left
  · intro w'
    go_simp
    with_reducible rfl
  rotate_left
  · simp only [Act.put, List.setIfInBounds_toArray, List.set_cons_zero, List.set_cons_succ, i64_w, i32_w]
    rfl
  refine pure_ (i := 2) (N := (some 12)) (v := ?_) (a' := ?_) #[true, true, true, false, true, false, false, false, false] rfl rfl (any_of HT_.out (by kernel_rfl)) (fun _ _ _ h => h) (Or.inl ⟨by rfl, ?_⟩) ?_ ?_
  rotate_left
  · intro w'
    go_simp
    with_reducible rfl
  rotate_left
  · simp only [Act.put, List.setIfInBounds_toArray, List.set_cons_zero, List.set_cons_succ, i64_w, i32_w]
    rfl
  refine take_ (i := 3) (N := (some 13)) (v := ?_) (a' := ?_) #[true, true, true, true, true, false, false, false, false] rfl rfl (take_ofW HT_.out HW_.out (by kernel_rfl)) (fun _ _ _ h => h) (Or.inl ⟨by rfl, ?_⟩) hHeld ?_ ?_
  rotate_left
  · rintro w' ⟨s0, s1, s2, s3⟩
    go_simp
    with_reducible rfl
  rotate_left
  · simp only [Act.put, List.setIfInBounds_toArray, List.set_cons_zero, List.set_cons_succ, i64_w, i32_w]
    rfl
  refine take_ (i := 5) (N := (some 15)) (v := ?_) (a' := ?_) #[true, true, true, true, true, true, false, false, false] rfl rfl (take_ofW HT_.out HW_.out (by kernel_rfl)) (fun _ _ _ h => h) (Or.inl ⟨by rfl, ?_⟩) hHeld ?_ ?_
  rotate_left
  · rintro w' ⟨s0, s1, s2, s3⟩
    go_simp
    with_reducible rfl
  rotate_left
  · simp only [Act.put, List.setIfInBounds_toArray, List.set_cons_zero, List.set_cons_succ, i64_w, i32_w]
    rfl
  refine take_ (i := 6) (N := (some 16)) (v := ?_) (a' := ?_) #[true, true, true, true, true, true, true, false, false] rfl rfl (take_ofW HT_.out HW_.out (by kernel_rfl)) (fun _ _ _ h => h) (Or.inl ⟨by rfl, ?_⟩) hHeld ?_ ?_
  rotate_left
  · rintro w' ⟨s0, s1, s2, s3⟩
    go_simp
    with_reducible rfl
  rotate_left
  · simp only [Act.put, List.setIfInBounds_toArray, List.set_cons_zero, List.set_cons_succ, i64_w, i32_w]
    rfl
  refine one_ (i := 7) (N := (some 5)) #[true, true, true, true, true, true, true, true, false] rfl rfl (one_of HT_.out (by kernel_rfl)) (by decide) (fun K hK => ?_)
  refine value_ (by rfl) rfl (v := .pointer (some ⟨w3.heap.size, 0, none⟩)) (w1 := w3.alloc (.cells #[.int .i64 0, .int .i64 0] 122)) (by go_simp <;> rfl) ?_
  refine hK.out _ _ ⟨(HJ3.out.alloc _).cells.1, (HJ3.out.alloc _).cells.2.1, (HJ3.out.alloc _).cells.2.2, (HJ3.out.alloc _).md.look hkl _ rfl⟩ (fun hHeld => ?_)
  clear hK K
  refine norm_ (a' := ?_) ?_ ?_
  rotate_left
  · show Act.put _ (some 5) _ = _
    simp only [Act.put, List.setIfInBounds_toArray, List.set_cons_zero, List.set_cons_succ, i64_w, i32_w]
    rfl
  refine last_ (i := 8) (N := none) #[true, true, true, true, true, true, true, true, true] rfl rfl (one_of HT_.out (by kernel_rfl)) (by decide) (fun K hK => ?_)
  refine skip_ (by rfl) rfl (w1 := w3.alloc (.cells #[.int .i64 (m.st e.h), .int .i64 (m.dl e.h)] 122)) (by go_simp <;> rfl) ?_
  refine hK.out _ _ ?_
  clear hK K
  refine done_ (done_of HT_.out (by kernel_rfl)) ?_
  clear hHeld
  have hcx := fun i => blk_cell (HJ3.out.alloc (.cells #[.int .i64 (m.st e.h), .int .i64 (m.dl e.h)] 122)).xb i
  have hce := fun i => blk_cell (HJ3.out.alloc (.cells #[.int .i64 (m.st e.h), .int .i64 (m.dl e.h)] 122)).eb i
  have hcm := fun i => (HJ3.out.alloc (.cells #[.int .i64 (m.st e.h), .int .i64 (m.dl e.h)] 122)).md.cell i
  have HK := Aside0.mk (show Dk w (w3.alloc (.cells #[.int .i64 (m.st e.h), .int .i64 (m.dl e.h)] 122)) B b n m1 m2 m e w3.heap.size from ⟨HJ3.out.alloc _, blk_new _ _⟩)
  clear hkl
  go_wp2
  go_ret
  exact DoPost.of HF.out rfl (HK.out.dj.md.up (by omega)) HK.out.dj.fr
set_option maxHeartbeats 4000000 in
set_option maxRecDepth 100000 in
theorem do_point {w : World} {B b n m1 m2 : Nat} {m : Md} (e : Ev) (hw : (Lit.int .i64 e.hn).wf = true ∧ (Lit.int .i64 e.hg).wf = true ∧ (Lit.int .i64 e.nn).wf = true ∧ (Lit.int .i64 e.ng).wf = true) (hn : n + 1 ≤ 1000000) (hwl : ∀ x, (Lit.int .i64 ((m.lst x).getD 0)).wf = true) (h : MdIs w B b n m m1 m2) (hr : rightJ e = true) (hk : e.k = 3) :
    Calls Try.prog 43 #[pA b, .agg (evA e)] w (DoPost w B b n m1 m2 (doF m e)) := by
  have hu0 := Try.underlying125
  have hu1 := Try.underlying34
  have hu2 := Try.underlying54
  have hu3 := Try.underlying122
  have hmf : ∀ (fn : Fn) (first cap : Array Value) (w : World), (Instr.makeFunc fn first cap).run Try.prog w = .ok (.func fn first cap) w := fun _ _ _ _ => rfl
  have HF := Aside0.mk (show doF m e = pointF m e by unfold doF; rw [if_neg (by rw [hr]; simp), if_neg (by omega), if_neg (by omega), if_pos hk])
  have k1 : (e.k == 1) = false := beq_eq_false_iff_ne.2 (by omega)
  have k4 : (e.k == 4) = false := beq_eq_false_iff_ne.2 (by omega)
  have k3 : (e.k == 3) = true := beq_iff_eq.2 (hk)
  have CR := Aside0.mk (fun W => right_run e W)
  rw [hr] at CR
  have HW := Aside0.mk hw
  have HN := Aside0.mk hn
  have HWL := Aside0.mk hwl
  have HJ := Aside0.mk (Dj.start h e)
  clear hw hn hwl h hr hk
  have hcx := fun i => blk_cell HJ.out.xb i
  have hce := fun i => blk_cell HJ.out.eb i
  have hlx := blk_lt HJ.out.xb
  have hle := blk_lt HJ.out.eb
  have hcm := fun i => HJ.out.md.cell i
  have hlm := HJ.out.md.lt
  go_enter Try.func43, Try.ntmps43
  go_wp2_with (first | (go_at_call 65; (with_reducible refine (CR.out _).mono ?_); rintro r w2 ⟨rfl, hb2⟩; have HJ2 := Aside0.mk (HJ.out.step hb2); clear hb2 hcx hce hlx hle hcm hlm; have HJ := HJ2; have hcx := fun i => blk_cell HJ.out.xb i; have hce := fun i => blk_cell HJ.out.eb i; have hlx := blk_lt HJ.out.xb; have hle := blk_lt HJ.out.eb; have hcm := fun i => HJ.out.md.cell i; have hlm := HJ.out.md.lt))
  obtain ⟨kl, hkl⟩ := keyH e.hn e.hg HW.out.1 HW.out.2.1
  refine start_ (n := 9) (S := (fun w' => (∀ i, w'.cell? ⟨b, i, none⟩ = (mdA m m1 m2)[i]?) ∧ (∀ i, w'.cell? ⟨w.heap.size, i, none⟩ = (#[pA b] : Array Value)[i]?) ∧ (∀ i, w'.cell? ⟨w.heap.size + 1, i, none⟩ = (evA e)[i]?) ∧ (Instr.lookup 123 (.map (some m1)) (haV e.h) false).run Try.prog w' = .ok (.agg #[.int .i64 (m.st e.h), .int .i64 (m.dl e.h)]) w')) (ds := [8]) #[false, false, false, false, false, false, false, false, false] (by kernel_rfl) rfl rfl ⟨HJ.out.drew.cells.1, HJ.out.drew.cells.2.1, HJ.out.drew.cells.2.2, HJ.out.drew.md.look hkl _ rfl⟩ (fun hHeld => ?_)
  refine with_tabW doR.tab3 doR.bits3 (fun HT_ HW_ => ?_)
  have HJ3 := Aside0.mk HJ.out.drew
  generalize World.drew _ = w3 at HJ3 hHeld ⊢
  clear HJ hcx hce hlx hle hcm hlm
  have hlx := blk_lt HJ3.out.xb
  have hle := blk_lt HJ3.out.eb
  have hlm := HJ3.out.md.lt
  refine pure_ (i := 4) (N := (some 14)) (v := ?_) (a' := ?_) #[false, false, false, false, true, false, false, false, false] rfl rfl (any_of HT_.out (by kernel_rfl)) (fun _ _ _ h => h) (Or.inl ⟨by rfl, ?_⟩) ?_ ?_
  rotate_left
  · intro w'
    go_simp
    with_reducible rfl
  rotate_left
  · simp only [Act.put, List.setIfInBounds_toArray, List.set_cons_zero, List.set_cons_succ, i64_w, i32_w]
    rfl
  refine take_ (i := 0) (N := (some 10)) (v := ?_) (a' := ?_) #[true, false, false, false, true, false, false, false, false] rfl rfl (take_ofW HT_.out HW_.out (by kernel_rfl)) (fun _ _ _ h => h) (Or.inl ⟨by rfl, ?_⟩) hHeld ?_ ?_
  rotate_left
  · rintro w' ⟨s0, s1, s2, s3⟩
    go_simp
    with_reducible rfl
  rotate_left
  · simp only [Act.put, List.setIfInBounds_toArray, List.set_cons_zero, List.set_cons_succ, i64_w, i32_w]
    rfl
  refine pure_ (i := 1) (N := (some 11)) (v := ?_) (a' := ?_) #[true, true, false, false, true, false, false, false, false] rfl rfl (any_of HT_.out (by kernel_rfl)) (fun _ _ _ h => h) (Or.inl ⟨by rfl, ?_⟩) ?_ ?_
  rotate_left
  · intro w'
    go_simp
    with_reducible rfl
  rotate_left
  · simp only [Act.put, List.setIfInBounds_toArray, List.set_cons_zero, List.set_cons_succ, i64_w, i32_w]
    rfl
  refine pure_ (i := 2) (N := (some 12)) (v := ?_) (a' := ?_) #[true, true, true, false, true, false, false, false, false] rfl rfl (any_of HT_.out (by kernel_rfl)) (fun _ _ _ h => h) (Or.inl ⟨by rfl, ?_⟩) ?_ ?_
  rotate_left
  · intro w'
    go_simp
    with_reducible rfl
  rotate_left
  · simp only [Act.put, List.setIfInBounds_toArray, List.set_cons_zero, List.set_cons_succ, i64_w, i32_w]
    rfl
  refine take_ (i := 3) (N := (some 13)) (v := ?_) (a' := ?_) #[true, true, true, true, true, false, false, false, false] rfl rfl (take_ofW HT_.out HW_.out (by kernel_rfl)) (fun _ _ _ h => h) (Or.inl ⟨by rfl, ?_⟩) hHeld ?_ ?_
  rotate_left
  · rintro w' ⟨s0, s1, s2, s3⟩
    go_simp
    with_reducible rfl
  rotate_left
  · simp only [Act.put, List.setIfInBounds_toArray, List.set_cons_zero, List.set_cons_succ, i64_w, i32_w]
    rfl
  refine take_ (i := 5) (N := (some 15)) (v := ?_) (a' := ?_) #[true, true, true, true, true, true, false, false, false] rfl rfl (take_ofW HT_.out HW_.out (by kernel_rfl)) (fun _ _ _ h => h) (Or.inl ⟨by rfl, ?_⟩) hHeld ?_ ?_
  rotate_left
  · rintro w' ⟨s0, s1, s2, s3⟩
    go_simp
    with_reducible rfl
  rotate_left
  · simp only [Act.put, List.setIfInBounds_toArray, List.set_cons_zero, List.set_cons_succ, i64_w, i32_w]
    rfl
  refine take_ (i := 6) (N := (some 16)) (v := ?_) (a' := ?_) #[true, true, true, true, true, true, true, false, false] rfl rfl (take_ofW HT_.out HW_.out (by kernel_rfl)) (fun _ _ _ h => h) (Or.inl ⟨by rfl, ?_⟩) hHeld ?_ ?_
  rotate_left
  · rintro w' ⟨s0, s1, s2, s3⟩
    go_simp
    with_reducible rfl
  rotate_left
  · simp only [Act.put, List.setIfInBounds_toArray, List.set_cons_zero, List.set_cons_succ, i64_w, i32_w]
    rfl
  refine one_ (i := 7) (N := (some 5)) #[true, true, true, true, true, true, true, true, false] rfl rfl (one_of HT_.out (by kernel_rfl)) (by decide) (fun K hK => ?_)
  refine value_ (by rfl) rfl (v := .pointer (some ⟨w3.heap.size, 0, none⟩)) (w1 := w3.alloc (.cells #[.int .i64 0, .int .i64 0] 122)) (by go_simp <;> rfl) ?_
  refine hK.out _ _ ⟨(HJ3.out.alloc _).cells.1, (HJ3.out.alloc _).cells.2.1, (HJ3.out.alloc _).cells.2.2, (HJ3.out.alloc _).md.look hkl _ rfl⟩ (fun hHeld => ?_)
  clear hK K
  refine norm_ (a' := ?_) ?_ ?_
  rotate_left
  · show Act.put _ (some 5) _ = _
    simp only [Act.put, List.setIfInBounds_toArray, List.set_cons_zero, List.set_cons_succ, i64_w, i32_w]
    rfl
  refine last_ (i := 8) (N := none) #[true, true, true, true, true, true, true, true, true] rfl rfl (one_of HT_.out (by kernel_rfl)) (by decide) (fun K hK => ?_)
  refine skip_ (by rfl) rfl (w1 := w3.alloc (.cells #[.int .i64 (m.st e.h), .int .i64 (m.dl e.h)] 122)) (by go_simp <;> rfl) ?_
  refine hK.out _ _ ?_
  clear hK K
  refine done_ (done_of HT_.out (by kernel_rfl)) ?_
  clear hHeld
  have hcx := fun i => blk_cell (HJ3.out.alloc (.cells #[.int .i64 (m.st e.h), .int .i64 (m.dl e.h)] 122)).xb i
  have hce := fun i => blk_cell (HJ3.out.alloc (.cells #[.int .i64 (m.st e.h), .int .i64 (m.dl e.h)] 122)).eb i
  have hcm := fun i => (HJ3.out.alloc (.cells #[.int .i64 (m.st e.h), .int .i64 (m.dl e.h)] 122)).md.cell i
  have HK := Aside0.mk (show Dk w (w3.alloc (.cells #[.int .i64 (m.st e.h), .int .i64 (m.dl e.h)] 122)) B b n m1 m2 m e w3.heap.size from ⟨HJ3.out.alloc _, blk_new _ _⟩)
  clear hkl
  have CP : Aside0 (∀ W, Dk w W B b n m1 m2 m e w3.heap.size → Calls Try.prog 76 #[pA b, .agg (evA e), .bool (m.st e.h == 1)] W (DoPost W B b n m1 m2 (pointF m e))) := ⟨fun W hW => point_any e HW.out HN.out HWL.out hW.dj.md⟩
  go_wp2_with (go_at_call 76; (with_reducible refine (CP.out _ HK.out).mono ?_); rintro r w4 ⟨rfl, hm, hf⟩; have HM := Aside0.mk (And.intro hm (HK.out.dj.fr.trans hf)); clear hm hf)
  go_ret
  exact DoPost.of HF.out rfl HM.out.1 HM.out.2
set_option maxHeartbeats 4000000 in
set_option maxRecDepth 100000 in
theorem do_tick {w : World} {B b n m1 m2 : Nat} {m : Md} (e : Ev) (hw : (Lit.int .i64 e.hn).wf = true ∧ (Lit.int .i64 e.hg).wf = true ∧ (Lit.int .i64 e.nn).wf = true ∧ (Lit.int .i64 e.ng).wf = true) (hn : n + 1 ≤ 1000000) (hwl : ∀ x, (Lit.int .i64 ((m.lst x).getD 0)).wf = true) (h : MdIs w B b n m m1 m2) (hr : rightJ e = true) (hk : e.k = 1) :
    Calls Try.prog 43 #[pA b, .agg (evA e)] w (DoPost w B b n m1 m2 (doF m e)) := by
  have hu0 := Try.underlying125
  have hu1 := Try.underlying34
  have hu2 := Try.underlying54
  have hu3 := Try.underlying122
  have hmf : ∀ (fn : Fn) (first cap : Array Value) (w : World), (Instr.makeFunc fn first cap).run Try.prog w = .ok (.func fn first cap) w := fun _ _ _ _ => rfl
  have HF := Aside0.mk (show doF m e = unF (e.t == wrap64 (m.clk + 1)) { m with clk := e.t } m by unfold doF; rw [if_neg (by rw [hr]; simp), if_pos hk]; unfold unF; by_cases ht : e.t = wrap64 (m.clk + 1) <;> simp [ht])
  have k1 : (e.k == 1) = true := beq_iff_eq.2 (hk)
  have k4 : (e.k == 4) = false := beq_eq_false_iff_ne.2 (by omega)
  have k3 : (e.k == 3) = false := beq_eq_false_iff_ne.2 (by omega)
  have CR := Aside0.mk (fun W => right_run e W)
  rw [hr] at CR
  have HW := Aside0.mk hw
  have HN := Aside0.mk hn
  have HWL := Aside0.mk hwl
  have HJ := Aside0.mk (Dj.start h e)
  clear hw hn hwl h hr hk
  have hcx := fun i => blk_cell HJ.out.xb i
  have hce := fun i => blk_cell HJ.out.eb i
  have hlx := blk_lt HJ.out.xb
  have hle := blk_lt HJ.out.eb
  have hcm := fun i => HJ.out.md.cell i
  have hlm := HJ.out.md.lt
  go_enter Try.func43, Try.ntmps43
  go_wp2_with (first | (go_at_call 65; (with_reducible refine (CR.out _).mono ?_); rintro r w2 ⟨rfl, hb2⟩; have HJ2 := Aside0.mk (HJ.out.step hb2); clear hb2 hcx hce hlx hle hcm hlm; have HJ := HJ2; have hcx := fun i => blk_cell HJ.out.xb i; have hce := fun i => blk_cell HJ.out.eb i; have hlx := blk_lt HJ.out.xb; have hle := blk_lt HJ.out.eb; have hcm := fun i => HJ.out.md.cell i; have hlm := HJ.out.md.lt))
  obtain ⟨kl, hkl⟩ := keyH e.hn e.hg HW.out.1 HW.out.2.1
  refine start_ (n := 9) (S := (fun w' => (∀ i, w'.cell? ⟨b, i, none⟩ = (mdA m m1 m2)[i]?) ∧ (∀ i, w'.cell? ⟨w.heap.size, i, none⟩ = (#[pA b] : Array Value)[i]?) ∧ (∀ i, w'.cell? ⟨w.heap.size + 1, i, none⟩ = (evA e)[i]?) ∧ (Instr.lookup 123 (.map (some m1)) (haV e.h) false).run Try.prog w' = .ok (.agg #[.int .i64 (m.st e.h), .int .i64 (m.dl e.h)]) w')) (ds := [8]) #[false, false, false, false, false, false, false, false, false] (by kernel_rfl) rfl rfl ⟨HJ.out.drew.cells.1, HJ.out.drew.cells.2.1, HJ.out.drew.cells.2.2, HJ.out.drew.md.look hkl _ rfl⟩ (fun hHeld => ?_)
  refine with_tabW doR.tab3 doR.bits3 (fun HT_ HW_ => ?_)
  have HJ3 := Aside0.mk HJ.out.drew
  generalize World.drew _ = w3 at HJ3 hHeld ⊢
  clear HJ hcx hce hlx hle hcm hlm
  have hlx := blk_lt HJ3.out.xb
  have hle := blk_lt HJ3.out.eb
  have hlm := HJ3.out.md.lt
  refine pure_ (i := 4) (N := (some 14)) (v := ?_) (a' := ?_) #[false, false, false, false, true, false, false, false, false] rfl rfl (any_of HT_.out (by kernel_rfl)) (fun _ _ _ h => h) (Or.inl ⟨by rfl, ?_⟩) ?_ ?_
  rotate_left
  · intro w'
    go_simp
    with_reducible rfl
  rotate_left
  · simp only [Act.put, List.setIfInBounds_toArray, List.set_cons_zero, List.set_cons_succ, i64_w, i32_w]
    rfl
  refine take_ (i := 0) (N := (some 10)) (v := ?_) (a' := ?_) #[true, false, false, false, true, false, false, false, false] rfl rfl (take_ofW HT_.out HW_.out (by kernel_rfl)) (fun _ _ _ h => h) (Or.inl ⟨by rfl, ?_⟩) hHeld ?_ ?_
  rotate_left
  · rintro w' ⟨s0, s1, s2, s3⟩
    go_simp
    with_reducible rfl
  rotate_left
  · simp only [Act.put, List.setIfInBounds_toArray, List.set_cons_zero, List.set_cons_succ, i64_w, i32_w]
    rfl
  refine pure_ (i := 1) (N := (some 11)) (v := ?_) (a' := ?_) #[true, true, false, false, true, false, false, false, false] rfl rfl (any_of HT_.out (by kernel_rfl)) (fun _ _ _ h => h) (Or.inl ⟨by rfl, ?_⟩) ?_ ?_
  rotate_left
  · intro w'
    go_simp
    with_reducible rfl
  rotate_left
  · simp only [Act.put, List.setIfInBounds_toArray, List.set_cons_zero, List.set_cons_succ, i64_w, i32_w]
    rfl
  refine pure_ (i := 2) (N := (some 12)) (v := ?_) (a' := ?_) #[true, true, true, false, true, false, false, false, false] rfl rfl (any_of HT_.out (by kernel_rfl)) (fun _ _ _ h => h) (Or.inl ⟨by rfl, ?_⟩) ?_ ?_
  rotate_left
  · intro w'
    go_simp
    with_reducible rfl
  rotate_left
  · simp only [Act.put, List.setIfInBounds_toArray, List.set_cons_zero, List.set_cons_succ, i64_w, i32_w]
    rfl
  refine take_ (i := 3) (N := (some 13)) (v := ?_) (a' := ?_) #[true, true, true, true, true, false, false, false, false] rfl rfl (take_ofW HT_.out HW_.out (by kernel_rfl)) (fun _ _ _ h => h) (Or.inl ⟨by rfl, ?_⟩) hHeld ?_ ?_
  rotate_left
  · rintro w' ⟨s0, s1, s2, s3⟩
    go_simp
    with_reducible rfl
  rotate_left
  · simp only [Act.put, List.setIfInBounds_toArray, List.set_cons_zero, List.set_cons_succ, i64_w, i32_w]
    rfl
  refine take_ (i := 5) (N := (some 15)) (v := ?_) (a' := ?_) #[true, true, true, true, true, true, false, false, false] rfl rfl (take_ofW HT_.out HW_.out (by kernel_rfl)) (fun _ _ _ h => h) (Or.inl ⟨by rfl, ?_⟩) hHeld ?_ ?_
  rotate_left
  · rintro w' ⟨s0, s1, s2, s3⟩
    go_simp
    with_reducible rfl
  rotate_left
  · simp only [Act.put, List.setIfInBounds_toArray, List.set_cons_zero, List.set_cons_succ, i64_w, i32_w]
    rfl
  refine take_ (i := 6) (N := (some 16)) (v := ?_) (a' := ?_) #[true, true, true, true, true, true, true, false, false] rfl rfl (take_ofW HT_.out HW_.out (by kernel_rfl)) (fun _ _ _ h => h) (Or.inl ⟨by rfl, ?_⟩) hHeld ?_ ?_
  rotate_left
  · rintro w' ⟨s0, s1, s2, s3⟩
    go_simp
    with_reducible rfl
  rotate_left
  · simp only [Act.put, List.setIfInBounds_toArray, List.set_cons_zero, List.set_cons_succ, i64_w, i32_w]
    rfl
  refine one_ (i := 7) (N := (some 5)) #[true, true, true, true, true, true, true, true, false] rfl rfl (one_of HT_.out (by kernel_rfl)) (by decide) (fun K hK => ?_)
  refine value_ (by rfl) rfl (v := .pointer (some ⟨w3.heap.size, 0, none⟩)) (w1 := w3.alloc (.cells #[.int .i64 0, .int .i64 0] 122)) (by go_simp <;> rfl) ?_
  refine hK.out _ _ ⟨(HJ3.out.alloc _).cells.1, (HJ3.out.alloc _).cells.2.1, (HJ3.out.alloc _).cells.2.2, (HJ3.out.alloc _).md.look hkl _ rfl⟩ (fun hHeld => ?_)
  clear hK K
  refine norm_ (a' := ?_) ?_ ?_
  rotate_left
  · show Act.put _ (some 5) _ = _
    simp only [Act.put, List.setIfInBounds_toArray, List.set_cons_zero, List.set_cons_succ, i64_w, i32_w]
    rfl
  refine last_ (i := 8) (N := none) #[true, true, true, true, true, true, true, true, true] rfl rfl (one_of HT_.out (by kernel_rfl)) (by decide) (fun K hK => ?_)
  refine skip_ (by rfl) rfl (w1 := w3.alloc (.cells #[.int .i64 (m.st e.h), .int .i64 (m.dl e.h)] 122)) (by go_simp <;> rfl) ?_
  refine hK.out _ _ ?_
  clear hK K
  refine done_ (done_of HT_.out (by kernel_rfl)) ?_
  clear hHeld
  have hcx := fun i => blk_cell (HJ3.out.alloc (.cells #[.int .i64 (m.st e.h), .int .i64 (m.dl e.h)] 122)).xb i
  have hce := fun i => blk_cell (HJ3.out.alloc (.cells #[.int .i64 (m.st e.h), .int .i64 (m.dl e.h)] 122)).eb i
  have hcm := fun i => (HJ3.out.alloc (.cells #[.int .i64 (m.st e.h), .int .i64 (m.dl e.h)] 122)).md.cell i
  have HK := Aside0.mk (show Dk w (w3.alloc (.cells #[.int .i64 (m.st e.h), .int .i64 (m.dl e.h)] 122)) B b n m1 m2 m e w3.heap.size from ⟨HJ3.out.alloc _, blk_new _ _⟩)
  clear hkl
  go_upto_region 7 with (fail)
  refine gen_world' (fun W => Dk w W B b n m1 m2 m e w3.heap.size) (by exact HK.out) fun w4 HK4 => ?_
  obtain ⟨fb, hfb⟩ : ∃ fb, w3.heap.size = fb := ⟨_, rfl⟩
  rw [hfb] at HK4 ⊢
  have HK5 := Aside0.mk HK4.drew
  clear HK hfb HK4 hcx hce hlx hle hcm hlm
  refine start_ (n := 11) (S := (fun w' => (∀ i, w'.cell? ⟨b, i, none⟩ = (mdA m m1 m2)[i]?) ∧ (∀ i, w'.cell? ⟨w.heap.size, i, none⟩ = (#[pA b] : Array Value)[i]?) ∧ (∀ i, w'.cell? ⟨w.heap.size + 1, i, none⟩ = (evA e)[i]?) ∧ (∀ i, w'.cell? ⟨fb, i, none⟩ = (#[.int .i64 (m.st e.h), .int .i64 (m.dl e.h)] : Array Value)[i]?))) (ds := [9]) #[false, false, false, false, false, false, false, false, false, false, false] (by kernel_rfl) rfl rfl HK5.out.cells (fun hHeld => ?_)
  refine with_tabW doR.tab7 doR.bits7 (fun HT_ HW_ => ?_)
  have HK6 := HK5
  generalize w4.drew = w5 at HK5 HK6 hHeld ⊢
  clear HK5
  have hlm := HK6.out.dj.md.lt
  have hlx := blk_lt HK6.out.dj.xb
  have hle := blk_lt HK6.out.dj.eb
  have hlf := blk_lt HK6.out.fb
  refine pure_ (i := 0) (N := (some 24)) (v := ?_) (a' := ?_) #[true, false, false, false, false, false, false, false, false, false, false] rfl rfl (any_of HT_.out (by kernel_rfl)) (fun _ _ _ h => h) (Or.inl ⟨by rfl, ?_⟩) ?_ ?_
  rotate_left
  · intro w'
    go_simp
    with_reducible rfl
  rotate_left
  · simp only [Act.put, List.setIfInBounds_toArray, List.set_cons_zero, List.set_cons_succ, i64_w, i32_w]
    rfl
  refine pure_ (i := 8) (N := (some 32)) (v := ?_) (a' := ?_) #[true, false, false, false, false, false, false, false, true, false, false] rfl rfl (any_of HT_.out (by kernel_rfl)) (fun _ _ _ h => h) (Or.inl ⟨by rfl, ?_⟩) ?_ ?_
  rotate_left
  · intro w'
    go_simp
    with_reducible rfl
  rotate_left
  · simp only [Act.put, List.setIfInBounds_toArray, List.set_cons_zero, List.set_cons_succ, i64_w, i32_w]
    rfl
  refine take_ (i := 1) (N := (some 25)) (v := ?_) (a' := ?_) #[true, true, false, false, false, false, false, false, true, false, false] rfl rfl (take_ofW HT_.out HW_.out (by kernel_rfl)) (fun _ _ _ h => h) (Or.inl ⟨by rfl, ?_⟩) hHeld ?_ ?_
  rotate_left
  · rintro w' ⟨s0, s1, s2, s3⟩
    go_simp
    with_reducible rfl
  rotate_left
  · simp only [Act.put, List.setIfInBounds_toArray, List.set_cons_zero, List.set_cons_succ, i64_w, i32_w]
    rfl
  refine take_ (i := 2) (N := (some 26)) (v := ?_) (a' := ?_) #[true, true, true, false, false, false, false, false, true, false, false] rfl rfl (take_ofW HT_.out HW_.out (by kernel_rfl)) (fun _ _ _ h => h) (Or.inl ⟨by rfl, ?_⟩) hHeld ?_ ?_
  rotate_left
  · rintro w' ⟨s0, s1, s2, s3⟩
    go_simp
    with_reducible rfl
  rotate_left
  · simp only [Act.put, List.setIfInBounds_toArray, List.set_cons_zero, List.set_cons_succ, i64_w, i32_w]
    rfl
  refine pure_ (i := 3) (N := (some 27)) (v := ?_) (a' := ?_) #[true, true, true, true, false, false, false, false, true, false, false] rfl rfl (any_of HT_.out (by kernel_rfl)) (fun _ _ _ h => h) (Or.inl ⟨by rfl, ?_⟩) ?_ ?_
  rotate_left
  · intro w'
    go_simp
    with_reducible rfl
  rotate_left
  · simp only [Act.put, List.setIfInBounds_toArray, List.set_cons_zero, List.set_cons_succ, i64_w, i32_w]
    rfl
  refine pure_ (i := 4) (N := (some 28)) (v := ?_) (a' := ?_) #[true, true, true, true, true, false, false, false, true, false, false] rfl rfl (any_of HT_.out (by kernel_rfl)) (fun _ _ _ h => h) (Or.inl ⟨by rfl, ?_⟩) ?_ ?_
  rotate_left
  · intro w'
    go_simp
    with_reducible rfl
  rotate_left
  · simp only [Act.put, List.setIfInBounds_toArray, List.set_cons_zero, List.set_cons_succ, i64_w, i32_w]
    rfl
  refine take_ (i := 5) (N := (some 29)) (v := ?_) (a' := ?_) #[true, true, true, true, true, true, false, false, true, false, false] rfl rfl (take_ofW HT_.out HW_.out (by kernel_rfl)) (fun _ _ _ h => h) (Or.inl ⟨by rfl, ?_⟩) hHeld ?_ ?_
  rotate_left
  · rintro w' ⟨s0, s1, s2, s3⟩
    go_simp
    with_reducible rfl
  rotate_left
  · simp only [Act.put, List.setIfInBounds_toArray, List.set_cons_zero, List.set_cons_succ, i64_w, i32_w]
    rfl
  refine pure_ (i := 6) (N := (some 30)) (v := ?_) (a' := ?_) #[true, true, true, true, true, true, true, false, true, false, false] rfl rfl (any_of HT_.out (by kernel_rfl)) (fun _ _ _ h => h) (Or.inl ⟨by rfl, ?_⟩) ?_ ?_
  rotate_left
  · intro w'
    go_simp
    with_reducible rfl
  rotate_left
  · simp only [Act.put, List.setIfInBounds_toArray, List.set_cons_zero, List.set_cons_succ, i64_w, i32_w]
    rfl
  refine pure_ (i := 7) (N := (some 31)) (v := ?_) (a' := ?_) #[true, true, true, true, true, true, true, true, true, false, false] rfl rfl (any_of HT_.out (by kernel_rfl)) (fun _ _ _ h => h) (Or.inl ⟨by rfl, ?_⟩) ?_ ?_
  rotate_left
  · intro w'
    go_simp
    with_reducible rfl
  rotate_left
  · simp only [Act.put, List.setIfInBounds_toArray, List.set_cons_zero, List.set_cons_succ, i64_w, i32_w]
    rfl
  refine last_ (i := 9) (N := (some 33)) #[true, true, true, true, true, true, true, true, true, true, false] rfl rfl (one_of HT_.out (by kernel_rfl)) (by decide) (fun K hK => ?_)
  refine call_ (f := 73) #[.bool (e.t == wrap64 (m.clk + 1)), .func (.func 74) #[] #[pA (w.heap.size + 1), pA w.heap.size]] (by rfl) rfl (by go_simp <;> rfl) ?_
  refine (un_tick (e.t == wrap64 (m.clk + 1)) HK6.out.dj.md HK6.out.dj.eb HK6.out.dj.xb).mono ?_
  rintro r w6 ⟨rfl, hm, hf⟩
  refine ⟨_, rfl, ?_⟩
  have HM := Aside0.mk (And.intro hm (HK6.out.dj.fr.trans hf))
  clear hm hf
  refine hK.out _ _ ?_
  clear hK K
  refine norm_ (a' := ?_) ?_ ?_
  rotate_left
  · show Act.put _ (some 33) _ = _
    simp only [Act.put, List.setIfInBounds_toArray, List.set_cons_zero, List.set_cons_succ, i64_w, i32_w]
    rfl
  refine pure_ (i := 10) (N := (some 4)) (v := ?_) (a' := ?_) #[true, true, true, true, true, true, true, true, true, true, true] rfl rfl (any_of HT_.out (by kernel_rfl)) (fun _ _ _ h => h) (Or.inl ⟨by rfl, ?_⟩) ?_ ?_
  rotate_left
  · intro w'
    go_simp
    with_reducible rfl
  rotate_left
  · simp only [Act.put, List.setIfInBounds_toArray, List.set_cons_zero, List.set_cons_succ, i64_w, i32_w]
    rfl
  refine done_ (done_of HT_.out (by kernel_rfl)) ?_
  go_wp2
  go_ret
  exact DoPost.of HF.out rfl HM.out.1 HM.out.2
set_option maxHeartbeats 4000000 in
set_option maxRecDepth 100000 in
theorem do_fire_no {w : World} {B b n m1 m2 : Nat} {m : Md} (e : Ev) (hw : (Lit.int .i64 e.hn).wf = true ∧ (Lit.int .i64 e.hg).wf = true ∧ (Lit.int .i64 e.nn).wf = true ∧ (Lit.int .i64 e.ng).wf = true) (hn : n + 1 ≤ 1000000) (hwl : ∀ x, (Lit.int .i64 ((m.lst x).getD 0)).wf = true) (h : MdIs w B b n m m1 m2) (hr : rightJ e = true) (hk : e.k = 4) (ha : ¬ m.st e.h = 1) :
    Calls Try.prog 43 #[pA b, .agg (evA e)] w (DoPost w B b n m1 m2 (doF m e)) := by
  have hu0 := Try.underlying125
  have hu1 := Try.underlying34
  have hu2 := Try.underlying54
  have hu3 := Try.underlying122
  have hmf : ∀ (fn : Fn) (first cap : Array Value) (w : World), (Instr.makeFunc fn first cap).run Try.prog w = .ok (.func fn first cap) w := fun _ _ _ _ => rfl
  have HF := Aside0.mk (show doF m e = unF false (m.end_ e.h 2) m by unfold doF; rw [if_neg (by rw [hr]; simp), if_neg (by omega), if_pos hk]; rw [if_neg (fun q => ha q.1)]; rfl)
  have k1 : (e.k == 1) = false := beq_eq_false_iff_ne.2 (by omega)
  have k4 : (e.k == 4) = true := beq_iff_eq.2 (hk)
  have k3 : (e.k == 3) = false := beq_eq_false_iff_ne.2 (by omega)
  have a1 : ((m.st e.h) == 1) = false := beq_eq_false_iff_ne.2 (ha)
  have CR := Aside0.mk (fun W => right_run e W)
  rw [hr] at CR
  have HW := Aside0.mk hw
  have HN := Aside0.mk hn
  have HWL := Aside0.mk hwl
  have HJ := Aside0.mk (Dj.start h e)
  clear hw hn hwl h hr hk ha
  have hcx := fun i => blk_cell HJ.out.xb i
  have hce := fun i => blk_cell HJ.out.eb i
  have hlx := blk_lt HJ.out.xb
  have hle := blk_lt HJ.out.eb
  have hcm := fun i => HJ.out.md.cell i
  have hlm := HJ.out.md.lt
  go_enter Try.func43, Try.ntmps43
  go_wp2_with (first | (go_at_call 65; (with_reducible refine (CR.out _).mono ?_); rintro r w2 ⟨rfl, hb2⟩; have HJ2 := Aside0.mk (HJ.out.step hb2); clear hb2 hcx hce hlx hle hcm hlm; have HJ := HJ2; have hcx := fun i => blk_cell HJ.out.xb i; have hce := fun i => blk_cell HJ.out.eb i; have hlx := blk_lt HJ.out.xb; have hle := blk_lt HJ.out.eb; have hcm := fun i => HJ.out.md.cell i; have hlm := HJ.out.md.lt))
  obtain ⟨kl, hkl⟩ := keyH e.hn e.hg HW.out.1 HW.out.2.1
  refine start_ (n := 9) (S := (fun w' => (∀ i, w'.cell? ⟨b, i, none⟩ = (mdA m m1 m2)[i]?) ∧ (∀ i, w'.cell? ⟨w.heap.size, i, none⟩ = (#[pA b] : Array Value)[i]?) ∧ (∀ i, w'.cell? ⟨w.heap.size + 1, i, none⟩ = (evA e)[i]?) ∧ (Instr.lookup 123 (.map (some m1)) (haV e.h) false).run Try.prog w' = .ok (.agg #[.int .i64 (m.st e.h), .int .i64 (m.dl e.h)]) w')) (ds := [8]) #[false, false, false, false, false, false, false, false, false] (by kernel_rfl) rfl rfl ⟨HJ.out.drew.cells.1, HJ.out.drew.cells.2.1, HJ.out.drew.cells.2.2, HJ.out.drew.md.look hkl _ rfl⟩ (fun hHeld => ?_)
  refine with_tabW doR.tab3 doR.bits3 (fun HT_ HW_ => ?_)
  have HJ3 := Aside0.mk HJ.out.drew
  generalize World.drew _ = w3 at HJ3 hHeld ⊢
  clear HJ hcx hce hlx hle hcm hlm
  have hlx := blk_lt HJ3.out.xb
  have hle := blk_lt HJ3.out.eb
  have hlm := HJ3.out.md.lt
  refine pure_ (i := 4) (N := (some 14)) (v := ?_) (a' := ?_) #[false, false, false, false, true, false, false, false, false] rfl rfl (any_of HT_.out (by kernel_rfl)) (fun _ _ _ h => h) (Or.inl ⟨by rfl, ?_⟩) ?_ ?_
  rotate_left
  · intro w'
    go_simp
    with_reducible rfl
  rotate_left
  · simp only [Act.put, List.setIfInBounds_toArray, List.set_cons_zero, List.set_cons_succ, i64_w, i32_w]
    rfl
  refine take_ (i := 0) (N := (some 10)) (v := ?_) (a' := ?_) #[true, false, false, false, true, false, false, false, false] rfl rfl (take_ofW HT_.out HW_.out (by kernel_rfl)) (fun _ _ _ h => h) (Or.inl ⟨by rfl, ?_⟩) hHeld ?_ ?_
  rotate_left
  · rintro w' ⟨s0, s1, s2, s3⟩
    go_simp
    with_reducible rfl
  rotate_left
  · simp only [Act.put, List.setIfInBounds_toArray, List.set_cons_zero, List.set_cons_succ, i64_w, i32_w]
    rfl
  refine pure_ (i := 1) (N := (some 11)) (v := ?_) (a' := ?_) #[true, true, false, false, true, false, false, false, false] rfl rfl (any_of HT_.out (by kernel_rfl)) (fun _ _ _ h => h) (Or.inl ⟨by rfl, ?_⟩) ?_ ?_
  rotate_left
  · intro w'
    go_simp
    with_reducible rfl
  rotate_left
  · simp only [Act.put, List.setIfInBounds_toArray, List.set_cons_zero, List.set_cons_succ, i64_w, i32_w]
    rfl
  refine pure_ (i := 2) (N := (some 12)) (v := ?_) (a' := ?_) #[true, true, true, false, true, false, false, false, false] rfl rfl (any_of HT_.out (by kernel_rfl)) (fun _ _ _ h => h) (Or.inl ⟨by rfl, ?_⟩) ?_ ?_
  rotate_left
  · intro w'
    go_simp
    with_reducible rfl
  rotate_left
  · simp only [Act.put, List.setIfInBounds_toArray, List.set_cons_zero, List.set_cons_succ, i64_w, i32_w]
    rfl
  refine take_ (i := 3) (N := (some 13)) (v := ?_) (a' := ?_) #[true, true, true, true, true, false, false, false, false] rfl rfl (take_ofW HT_.out HW_.out (by kernel_rfl)) (fun _ _ _ h => h) (Or.inl ⟨by rfl, ?_⟩) hHeld ?_ ?_
  rotate_left
  · rintro w' ⟨s0, s1, s2, s3⟩
    go_simp
    with_reducible rfl
  rotate_left
  · simp only [Act.put, List.setIfInBounds_toArray, List.set_cons_zero, List.set_cons_succ, i64_w, i32_w]
    rfl
  refine take_ (i := 5) (N := (some 15)) (v := ?_) (a' := ?_) #[true, true, true, true, true, true, false, false, false] rfl rfl (take_ofW HT_.out HW_.out (by kernel_rfl)) (fun _ _ _ h => h) (Or.inl ⟨by rfl, ?_⟩) hHeld ?_ ?_
  rotate_left
  · rintro w' ⟨s0, s1, s2, s3⟩
    go_simp
    with_reducible rfl
  rotate_left
  · simp only [Act.put, List.setIfInBounds_toArray, List.set_cons_zero, List.set_cons_succ, i64_w, i32_w]
    rfl
  refine take_ (i := 6) (N := (some 16)) (v := ?_) (a' := ?_) #[true, true, true, true, true, true, true, false, false] rfl rfl (take_ofW HT_.out HW_.out (by kernel_rfl)) (fun _ _ _ h => h) (Or.inl ⟨by rfl, ?_⟩) hHeld ?_ ?_
  rotate_left
  · rintro w' ⟨s0, s1, s2, s3⟩
    go_simp
    with_reducible rfl
  rotate_left
  · simp only [Act.put, List.setIfInBounds_toArray, List.set_cons_zero, List.set_cons_succ, i64_w, i32_w]
    rfl
  refine one_ (i := 7) (N := (some 5)) #[true, true, true, true, true, true, true, true, false] rfl rfl (one_of HT_.out (by kernel_rfl)) (by decide) (fun K hK => ?_)
  refine value_ (by rfl) rfl (v := .pointer (some ⟨w3.heap.size, 0, none⟩)) (w1 := w3.alloc (.cells #[.int .i64 0, .int .i64 0] 122)) (by go_simp <;> rfl) ?_
  refine hK.out _ _ ⟨(HJ3.out.alloc _).cells.1, (HJ3.out.alloc _).cells.2.1, (HJ3.out.alloc _).cells.2.2, (HJ3.out.alloc _).md.look hkl _ rfl⟩ (fun hHeld => ?_)
  clear hK K
  refine norm_ (a' := ?_) ?_ ?_
  rotate_left
  · show Act.put _ (some 5) _ = _
    simp only [Act.put, List.setIfInBounds_toArray, List.set_cons_zero, List.set_cons_succ, i64_w, i32_w]
    rfl
  refine last_ (i := 8) (N := none) #[true, true, true, true, true, true, true, true, true] rfl rfl (one_of HT_.out (by kernel_rfl)) (by decide) (fun K hK => ?_)
  refine skip_ (by rfl) rfl (w1 := w3.alloc (.cells #[.int .i64 (m.st e.h), .int .i64 (m.dl e.h)] 122)) (by go_simp <;> rfl) ?_
  refine hK.out _ _ ?_
  clear hK K
  refine done_ (done_of HT_.out (by kernel_rfl)) ?_
  clear hHeld
  have hcx := fun i => blk_cell (HJ3.out.alloc (.cells #[.int .i64 (m.st e.h), .int .i64 (m.dl e.h)] 122)).xb i
  have hce := fun i => blk_cell (HJ3.out.alloc (.cells #[.int .i64 (m.st e.h), .int .i64 (m.dl e.h)] 122)).eb i
  have hcm := fun i => (HJ3.out.alloc (.cells #[.int .i64 (m.st e.h), .int .i64 (m.dl e.h)] 122)).md.cell i
  have HK := Aside0.mk (show Dk w (w3.alloc (.cells #[.int .i64 (m.st e.h), .int .i64 (m.dl e.h)] 122)) B b n m1 m2 m e w3.heap.size from ⟨HJ3.out.alloc _, blk_new _ _⟩)
  clear hkl
  go_upto_region 9 with (fail)
  refine gen_world' (fun W => Dk w W B b n m1 m2 m e w3.heap.size) (by exact HK.out) fun w4 HK4 => ?_
  obtain ⟨fb, hfb⟩ : ∃ fb, w3.heap.size = fb := ⟨_, rfl⟩
  rw [hfb] at HK4 ⊢
  have HK5 := Aside0.mk HK4.drew
  clear HK hfb HK4 hcx hce hlx hle hcm hlm
  refine start_ (n := 23) (S := (fun w' => (∀ i, w'.cell? ⟨b, i, none⟩ = (mdA m m1 m2)[i]?) ∧ (∀ i, w'.cell? ⟨w.heap.size, i, none⟩ = (#[pA b] : Array Value)[i]?) ∧ (∀ i, w'.cell? ⟨w.heap.size + 1, i, none⟩ = (evA e)[i]?) ∧ (∀ i, w'.cell? ⟨fb, i, none⟩ = (#[.int .i64 (m.st e.h), .int .i64 (m.dl e.h)] : Array Value)[i]?))) (ds := [21]) #[false, false, false, false, false, false, false, false, false, false, false, false, false, false, false, false, false, false, false, false, false, false, false] (by kernel_rfl) rfl rfl HK5.out.cells (fun hHeld => ?_)
  refine with_tabW doR.tab9 doR.bits9 (fun HT_ HW_ => ?_)
  have HK6 := HK5
  generalize w4.drew = w5 at HK5 HK6 hHeld ⊢
  clear HK5
  have hlm := HK6.out.dj.md.lt
  have hlx := blk_lt HK6.out.dj.xb
  have hle := blk_lt HK6.out.dj.eb
  have hlf := blk_lt HK6.out.fb
  refine pure_ (i := 0) (N := (some 36)) (v := ?_) (a' := ?_) #[true, false, false, false, false, false, false, false, false, false, false, false, false, false, false, false, false, false, false, false, false, false, false] rfl rfl (any_of HT_.out (by kernel_rfl)) (fun _ _ _ h => h) (Or.inl ⟨by rfl, ?_⟩) ?_ ?_
  rotate_left
  · intro w'
    go_simp
    with_reducible rfl
  rotate_left
  · simp only [Act.put, List.setIfInBounds_toArray, List.set_cons_zero, List.set_cons_succ, i64_w, i32_w]
    rfl
  refine pure_ (i := 1) (N := (some 37)) (v := ?_) (a' := ?_) #[true, true, false, false, false, false, false, false, false, false, false, false, false, false, false, false, false, false, false, false, false, false, false] rfl rfl (any_of HT_.out (by kernel_rfl)) (fun _ _ _ h => h) (Or.inl ⟨by rfl, ?_⟩) ?_ ?_
  rotate_left
  · intro w'
    go_simp
    with_reducible rfl
  rotate_left
  · simp only [Act.put, List.setIfInBounds_toArray, List.set_cons_zero, List.set_cons_succ, i64_w, i32_w]
    rfl
  refine pure_ (i := 2) (N := (some 38)) (v := undef) (a' := ?_) #[true, true, true, false, false, false, false, false, false, false, false, false, false, false, false, false, false, false, false, false, false, false, false] rfl rfl (any_of HT_.out (by kernel_rfl)) (fun _ _ _ h => h) (Or.inr ⟨by rfl, rfl⟩) ?_ ?_
  rotate_left
  · simp only [Act.put, List.setIfInBounds_toArray, List.set_cons_zero, List.set_cons_succ, i64_w, i32_w]
    rfl
  refine pure_ (i := 3) (N := (some 39)) (v := undef) (a' := ?_) #[true, true, true, true, false, false, false, false, false, false, false, false, false, false, false, false, false, false, false, false, false, false, false] rfl rfl (any_of HT_.out (by kernel_rfl)) (fun _ _ _ h => h) (Or.inr ⟨by rfl, rfl⟩) ?_ ?_
  rotate_left
  · simp only [Act.put, List.setIfInBounds_toArray, List.set_cons_zero, List.set_cons_succ, i64_w, i32_w]
    rfl
  refine pure_ (i := 4) (N := (some 40)) (v := undef) (a' := ?_) #[true, true, true, true, true, false, false, false, false, false, false, false, false, false, false, false, false, false, false, false, false, false, false] rfl rfl (any_of HT_.out (by kernel_rfl)) (fun _ _ _ h => h) (Or.inr ⟨by rfl, rfl⟩) ?_ ?_
  rotate_left
  · simp only [Act.put, List.setIfInBounds_toArray, List.set_cons_zero, List.set_cons_succ, i64_w, i32_w]
    rfl
  refine pure_ (i := 5) (N := (some 41)) (v := undef) (a' := ?_) #[true, true, true, true, true, true, false, false, false, false, false, false, false, false, false, false, false, false, false, false, false, false, false] rfl rfl (any_of HT_.out (by kernel_rfl)) (fun _ _ _ h => h) (Or.inr ⟨by rfl, rfl⟩) ?_ ?_
  rotate_left
  · simp only [Act.put, List.setIfInBounds_toArray, List.set_cons_zero, List.set_cons_succ, i64_w, i32_w]
    rfl
  refine pure_ (i := 6) (N := (some 42)) (v := undef) (a' := ?_) #[true, true, true, true, true, true, true, false, false, false, false, false, false, false, false, false, false, false, false, false, false, false, false] rfl rfl (any_of HT_.out (by kernel_rfl)) (fun _ _ _ h => h) (Or.inr ⟨by rfl, rfl⟩) ?_ ?_
  rotate_left
  · simp only [Act.put, List.setIfInBounds_toArray, List.set_cons_zero, List.set_cons_succ, i64_w, i32_w]
    rfl
  refine pure_ (i := 7) (N := (some 43)) (v := ?_) (a' := ?_) #[true, true, true, true, true, true, true, true, false, false, false, false, false, false, false, false, false, false, false, false, false, false, false] rfl rfl (any_of HT_.out (by kernel_rfl)) (fun _ _ _ h => h) (Or.inl ⟨by rfl, ?_⟩) ?_ ?_
  rotate_left
  · intro w'
    go_simp
    with_reducible rfl
  rotate_left
  · simp only [Act.put, List.setIfInBounds_toArray, List.set_cons_zero, List.set_cons_succ, i64_w, i32_w]
    rfl
  refine pure_ (i := 8) (N := (some 44)) (v := ?_) (a' := ?_) #[true, true, true, true, true, true, true, true, true, false, false, false, false, false, false, false, false, false, false, false, false, false, false] rfl rfl (any_of HT_.out (by kernel_rfl)) (fun _ _ _ h => h) (Or.inl ⟨by rfl, ?_⟩) ?_ ?_
  rotate_left
  · intro w'
    go_simp
    with_reducible rfl
  rotate_left
  · simp only [Act.put, List.setIfInBounds_toArray, List.set_cons_zero, List.set_cons_succ, i64_w, i32_w]
    rfl
  refine pure_ (i := 9) (N := (some 45)) (v := undef) (a' := ?_) #[true, true, true, true, true, true, true, true, true, true, false, false, false, false, false, false, false, false, false, false, false, false, false] rfl rfl (any_of HT_.out (by kernel_rfl)) (fun _ _ _ h => h) (Or.inr ⟨by rfl, rfl⟩) ?_ ?_
  rotate_left
  · simp only [Act.put, List.setIfInBounds_toArray, List.set_cons_zero, List.set_cons_succ, i64_w, i32_w]
    rfl
  refine pure_ (i := 10) (N := (some 46)) (v := undef) (a' := ?_) #[true, true, true, true, true, true, true, true, true, true, true, false, false, false, false, false, false, false, false, false, false, false, false] rfl rfl (any_of HT_.out (by kernel_rfl)) (fun _ _ _ h => h) (Or.inr ⟨by rfl, rfl⟩) ?_ ?_
  rotate_left
  · simp only [Act.put, List.setIfInBounds_toArray, List.set_cons_zero, List.set_cons_succ, i64_w, i32_w]
    rfl
  refine pure_ (i := 11) (N := (some 47)) (v := undef) (a' := ?_) #[true, true, true, true, true, true, true, true, true, true, true, true, false, false, false, false, false, false, false, false, false, false, false] rfl rfl (any_of HT_.out (by kernel_rfl)) (fun _ _ _ h => h) (Or.inr ⟨by rfl, rfl⟩) ?_ ?_
  rotate_left
  · simp only [Act.put, List.setIfInBounds_toArray, List.set_cons_zero, List.set_cons_succ, i64_w, i32_w]
    rfl
  refine pure_ (i := 12) (N := (some 48)) (v := undef) (a' := ?_) #[true, true, true, true, true, true, true, true, true, true, true, true, true, false, false, false, false, false, false, false, false, false, false] rfl rfl (any_of HT_.out (by kernel_rfl)) (fun _ _ _ h => h) (Or.inr ⟨by rfl, rfl⟩) ?_ ?_
  rotate_left
  · simp only [Act.put, List.setIfInBounds_toArray, List.set_cons_zero, List.set_cons_succ, i64_w, i32_w]
    rfl
  refine pure_ (i := 13) (N := (some 49)) (v := undef) (a' := ?_) #[true, true, true, true, true, true, true, true, true, true, true, true, true, true, false, false, false, false, false, false, false, false, false] rfl rfl (any_of HT_.out (by kernel_rfl)) (fun _ _ _ h => h) (Or.inr ⟨by rfl, rfl⟩) ?_ ?_
  rotate_left
  · simp only [Act.put, List.setIfInBounds_toArray, List.set_cons_zero, List.set_cons_succ, i64_w, i32_w]
    rfl
  refine pure_ (i := 14) (N := (some 50)) (v := undef) (a' := ?_) #[true, true, true, true, true, true, true, true, true, true, true, true, true, true, true, false, false, false, false, false, false, false, false] rfl rfl (any_of HT_.out (by kernel_rfl)) (fun _ _ _ h => h) (Or.inr ⟨by rfl, rfl⟩) ?_ ?_
  rotate_left
  · simp only [Act.put, List.setIfInBounds_toArray, List.set_cons_zero, List.set_cons_succ, i64_w, i32_w]
    rfl
  refine pure_ (i := 15) (N := (some 51)) (v := undef) (a' := ?_) #[true, true, true, true, true, true, true, true, true, true, true, true, true, true, true, true, false, false, false, false, false, false, false] rfl rfl (any_of HT_.out (by kernel_rfl)) (fun _ _ _ h => h) (Or.inr ⟨by rfl, rfl⟩) ?_ ?_
  rotate_left
  · simp only [Act.put, List.setIfInBounds_toArray, List.set_cons_zero, List.set_cons_succ, i64_w, i32_w]
    rfl
  refine pure_ (i := 16) (N := (some 52)) (v := ?_) (a' := ?_) #[true, true, true, true, true, true, true, true, true, true, true, true, true, true, true, true, true, false, false, false, false, false, false] rfl rfl (any_of HT_.out (by kernel_rfl)) (fun _ _ _ h => h) (Or.inl ⟨by rfl, ?_⟩) ?_ ?_
  rotate_left
  · intro w'
    go_simp
    with_reducible rfl
  rotate_left
  · simp only [Act.put, List.setIfInBounds_toArray, List.set_cons_zero, List.set_cons_succ, i64_w, i32_w]
    rfl
  refine pure_ (i := 18) (N := (some 54)) (v := ?_) (a' := ?_) #[true, true, true, true, true, true, true, true, true, true, true, true, true, true, true, true, true, false, true, false, false, false, false] rfl rfl (any_of HT_.out (by kernel_rfl)) (fun _ _ _ h => h) (Or.inl ⟨by rfl, ?_⟩) ?_ ?_
  rotate_left
  · intro w'
    go_simp
    with_reducible rfl
  rotate_left
  · simp only [Act.put, List.setIfInBounds_toArray, List.set_cons_zero, List.set_cons_succ, i64_w, i32_w]
    rfl
  refine take_ (i := 17) (N := (some 53)) (v := ?_) (a' := ?_) #[true, true, true, true, true, true, true, true, true, true, true, true, true, true, true, true, true, true, true, false, false, false, false] rfl rfl (take_ofW HT_.out HW_.out (by kernel_rfl)) (fun _ _ _ h => h) (Or.inl ⟨by rfl, ?_⟩) hHeld ?_ ?_
  rotate_left
  · rintro w' ⟨s0, s1, s2, s3⟩
    go_simp
    with_reducible rfl
  rotate_left
  · simp only [Act.put, List.setIfInBounds_toArray, List.set_cons_zero, List.set_cons_succ, i64_w, i32_w]
    rfl
  refine take_ (i := 19) (N := (some 55)) (v := ?_) (a' := ?_) #[true, true, true, true, true, true, true, true, true, true, true, true, true, true, true, true, true, true, true, true, false, false, false] rfl rfl (take_ofW HT_.out HW_.out (by kernel_rfl)) (fun _ _ _ h => h) (Or.inl ⟨by rfl, ?_⟩) hHeld ?_ ?_
  rotate_left
  · rintro w' ⟨s0, s1, s2, s3⟩
    go_simp
    with_reducible rfl
  rotate_left
  · simp only [Act.put, List.setIfInBounds_toArray, List.set_cons_zero, List.set_cons_succ, i64_w, i32_w]
    rfl
  refine one_ (i := 20) (N := (some 56)) #[true, true, true, true, true, true, true, true, true, true, true, true, true, true, true, true, true, true, true, true, true, false, false] rfl rfl (one_of HT_.out (by kernel_rfl)) (by decide) (fun K hK => ?_)
  refine call_ (f := 75) #[pA b, .agg #[.int .i64 e.hn, .int .i64 e.hg], .int .i64 2] (by rfl) rfl (by go_simp <;> rfl) ?_
  refine (end_new b e.hn e.hg 2 w5).mono ?_
  rintro r w6 ⟨sb, xb, hb, rfl, h3, hb2⟩
  refine ⟨_, rfl, ?_⟩
  have HE := Aside0.mk (And.intro h3 (HK6.out.step hb2))
  clear h3 hb2
  refine hK.out _ _ HE.out.2.cells (fun hHeld => ?_)
  clear hK K
  refine norm_ (a' := ?_) ?_ ?_
  rotate_left
  · show Act.put _ (some 56) _ = _
    simp only [Act.put, List.setIfInBounds_toArray, List.set_cons_zero, List.set_cons_succ, i64_w, i32_w]
    rfl
  refine last_ (i := 21) (N := (some 57)) #[true, true, true, true, true, true, true, true, true, true, true, true, true, true, true, true, true, true, true, true, true, true, false] rfl rfl (one_of HT_.out (by kernel_rfl)) (by decide) (fun K hK => ?_)
  refine call_ (f := 73) #[.bool false, .func (.func 99) #[] #[pA sb, pA xb, pA hb]] (by rfl) rfl (by first | (go_simp <;> rfl) | (simp only [HTC.out]; go_simp <;> rfl)) ?_
  refine (un_end false 2 e.hn e.hg (by have := HN.out; omega) HW.out.1 HW.out.2.1 HE.out.2.dj.md HE.out.1).mono ?_
  rintro r w7 ⟨rfl, hm, hf⟩
  refine ⟨_, rfl, ?_⟩
  have HM := Aside0.mk (And.intro hm (HE.out.2.dj.fr.trans hf))
  clear hm hf
  refine hK.out _ _ ?_
  clear hK K
  refine norm_ (a' := ?_) ?_ ?_
  rotate_left
  · show Act.put _ (some 57) _ = _
    simp only [Act.put, List.setIfInBounds_toArray, List.set_cons_zero, List.set_cons_succ, i64_w, i32_w]
    rfl
  refine pure_ (i := 22) (N := (some 4)) (v := ?_) (a' := ?_) #[true, true, true, true, true, true, true, true, true, true, true, true, true, true, true, true, true, true, true, true, true, true, true] rfl rfl (any_of HT_.out (by kernel_rfl)) (fun _ _ _ h => h) (Or.inl ⟨by rfl, ?_⟩) ?_ ?_
  rotate_left
  · intro w'
    go_simp
    with_reducible rfl
  rotate_left
  · simp only [Act.put, List.setIfInBounds_toArray, List.set_cons_zero, List.set_cons_succ, i64_w, i32_w]
    rfl
  refine done_ (done_of HT_.out (by kernel_rfl)) ?_
  go_wp2
  go_ret
  exact DoPost.of HF.out rfl HM.out.1 HM.out.2
set_option maxHeartbeats 4000000 in
set_option maxRecDepth 100000 in
theorem do_fire_early {w : World} {B b n m1 m2 : Nat} {m : Md} (e : Ev) (hw : (Lit.int .i64 e.hn).wf = true ∧ (Lit.int .i64 e.hg).wf = true ∧ (Lit.int .i64 e.nn).wf = true ∧ (Lit.int .i64 e.ng).wf = true) (hn : n + 1 ≤ 1000000) (hwl : ∀ x, (Lit.int .i64 ((m.lst x).getD 0)).wf = true) (h : MdIs w B b n m m1 m2) (hr : rightJ e = true) (hk : e.k = 4) (ha : m.st e.h = 1) (hd : ¬ m.dl e.h ≤ e.t) :
    Calls Try.prog 43 #[pA b, .agg (evA e)] w (DoPost w B b n m1 m2 (doF m e)) := by
  have hu0 := Try.underlying125
  have hu1 := Try.underlying34
  have hu2 := Try.underlying54
  have hu3 := Try.underlying122
  have hmf : ∀ (fn : Fn) (first cap : Array Value) (w : World), (Instr.makeFunc fn first cap).run Try.prog w = .ok (.func fn first cap) w := fun _ _ _ _ => rfl
  have HF := Aside0.mk (show doF m e = unF false (m.end_ e.h 2) m by unfold doF; rw [if_neg (by rw [hr]; simp), if_neg (by omega), if_pos hk]; rw [if_neg (fun q => hd q.2.1)]; rfl)
  have k1 : (e.k == 1) = false := beq_eq_false_iff_ne.2 (by omega)
  have k4 : (e.k == 4) = true := beq_iff_eq.2 (hk)
  have k3 : (e.k == 3) = false := beq_eq_false_iff_ne.2 (by omega)
  have a1 : ((m.st e.h) == 1) = true := beq_iff_eq.2 (ha)
  have d1 : decide (m.dl e.h ≤ e.t) = false := decide_eq_false hd
  have CR := Aside0.mk (fun W => right_run e W)
  rw [hr] at CR
  have HW := Aside0.mk hw
  have HN := Aside0.mk hn
  have HWL := Aside0.mk hwl
  have HJ := Aside0.mk (Dj.start h e)
  clear hw hn hwl h hr hk ha hd
  have hcx := fun i => blk_cell HJ.out.xb i
  have hce := fun i => blk_cell HJ.out.eb i
  have hlx := blk_lt HJ.out.xb
  have hle := blk_lt HJ.out.eb
  have hcm := fun i => HJ.out.md.cell i
  have hlm := HJ.out.md.lt
  go_enter Try.func43, Try.ntmps43
  go_wp2_with (first | (go_at_call 65; (with_reducible refine (CR.out _).mono ?_); rintro r w2 ⟨rfl, hb2⟩; have HJ2 := Aside0.mk (HJ.out.step hb2); clear hb2 hcx hce hlx hle hcm hlm; have HJ := HJ2; have hcx := fun i => blk_cell HJ.out.xb i; have hce := fun i => blk_cell HJ.out.eb i; have hlx := blk_lt HJ.out.xb; have hle := blk_lt HJ.out.eb; have hcm := fun i => HJ.out.md.cell i; have hlm := HJ.out.md.lt))
  obtain ⟨kl, hkl⟩ := keyH e.hn e.hg HW.out.1 HW.out.2.1
  refine start_ (n := 9) (S := (fun w' => (∀ i, w'.cell? ⟨b, i, none⟩ = (mdA m m1 m2)[i]?) ∧ (∀ i, w'.cell? ⟨w.heap.size, i, none⟩ = (#[pA b] : Array Value)[i]?) ∧ (∀ i, w'.cell? ⟨w.heap.size + 1, i, none⟩ = (evA e)[i]?) ∧ (Instr.lookup 123 (.map (some m1)) (haV e.h) false).run Try.prog w' = .ok (.agg #[.int .i64 (m.st e.h), .int .i64 (m.dl e.h)]) w')) (ds := [8]) #[false, false, false, false, false, false, false, false, false] (by kernel_rfl) rfl rfl ⟨HJ.out.drew.cells.1, HJ.out.drew.cells.2.1, HJ.out.drew.cells.2.2, HJ.out.drew.md.look hkl _ rfl⟩ (fun hHeld => ?_)
  refine with_tabW doR.tab3 doR.bits3 (fun HT_ HW_ => ?_)
  have HJ3 := Aside0.mk HJ.out.drew
  generalize World.drew _ = w3 at HJ3 hHeld ⊢
  clear HJ hcx hce hlx hle hcm hlm
  have hlx := blk_lt HJ3.out.xb
  have hle := blk_lt HJ3.out.eb
  have hlm := HJ3.out.md.lt
  refine pure_ (i := 4) (N := (some 14)) (v := ?_) (a' := ?_) #[false, false, false, false, true, false, false, false, false] rfl rfl (any_of HT_.out (by kernel_rfl)) (fun _ _ _ h => h) (Or.inl ⟨by rfl, ?_⟩) ?_ ?_
  rotate_left
  · intro w'
    go_simp
    with_reducible rfl
  rotate_left
  · simp only [Act.put, List.setIfInBounds_toArray, List.set_cons_zero, List.set_cons_succ, i64_w, i32_w]
    rfl
  refine take_ (i := 0) (N := (some 10)) (v := ?_) (a' := ?_) #[true, false, false, false, true, false, false, false, false] rfl rfl (take_ofW HT_.out HW_.out (by kernel_rfl)) (fun _ _ _ h => h) (Or.inl ⟨by rfl, ?_⟩) hHeld ?_ ?_
  rotate_left
  · rintro w' ⟨s0, s1, s2, s3⟩
    go_simp
    with_reducible rfl
  rotate_left
  · simp only [Act.put, List.setIfInBounds_toArray, List.set_cons_zero, List.set_cons_succ, i64_w, i32_w]
    rfl
  refine pure_ (i := 1) (N := (some 11)) (v := ?_) (a' := ?_) #[true, true, false, false, true, false, false, false, false] rfl rfl (any_of HT_.out (by kernel_rfl)) (fun _ _ _ h => h) (Or.inl ⟨by rfl, ?_⟩) ?_ ?_
  rotate_left
  · intro w'
    go_simp
    with_reducible rfl
  rotate_left
  · simp only [Act.put, List.setIfInBounds_toArray, List.set_cons_zero, List.set_cons_succ, i64_w, i32_w]
    rfl
  refine pure_ (i := 2) (N := (some 12)) (v := ?_) (a' := ?_) #[true, true, true, false, true, false, false, false, false] rfl rfl (any_of HT_.out (by kernel_rfl)) (fun _ _ _ h => h) (Or.inl ⟨by rfl, ?_⟩) ?_ ?_
  rotate_left
  · intro w'
    go_simp
    with_reducible rfl
  rotate_left
  · simp only [Act.put, List.setIfInBounds_toArray, List.set_cons_zero, List.set_cons_succ, i64_w, i32_w]
    rfl
  refine take_ (i := 3) (N := (some 13)) (v := ?_) (a' := ?_) #[true, true, true, true, true, false, false, false, false] rfl rfl (take_ofW HT_.out HW_.out (by kernel_rfl)) (fun _ _ _ h => h) (Or.inl ⟨by rfl, ?_⟩) hHeld ?_ ?_
  rotate_left
  · rintro w' ⟨s0, s1, s2, s3⟩
    go_simp
    with_reducible rfl
  rotate_left
  · simp only [Act.put, List.setIfInBounds_toArray, List.set_cons_zero, List.set_cons_succ, i64_w, i32_w]
    rfl
  refine take_ (i := 5) (N := (some 15)) (v := ?_) (a' := ?_) #[true, true, true, true, true, true, false, false, false] rfl rfl (take_ofW HT_.out HW_.out (by kernel_rfl)) (fun _ _ _ h => h) (Or.inl ⟨by rfl, ?_⟩) hHeld ?_ ?_
  rotate_left
  · rintro w' ⟨s0, s1, s2, s3⟩
    go_simp
    with_reducible rfl
  rotate_left
  · simp only [Act.put, List.setIfInBounds_toArray, List.set_cons_zero, List.set_cons_succ, i64_w, i32_w]
    rfl
  refine take_ (i := 6) (N := (some 16)) (v := ?_) (a' := ?_) #[true, true, true, true, true, true, true, false, false] rfl rfl (take_ofW HT_.out HW_.out (by kernel_rfl)) (fun _ _ _ h => h) (Or.inl ⟨by rfl, ?_⟩) hHeld ?_ ?_
  rotate_left
  · rintro w' ⟨s0, s1, s2, s3⟩
    go_simp
    with_reducible rfl
  rotate_left
  · simp only [Act.put, List.setIfInBounds_toArray, List.set_cons_zero, List.set_cons_succ, i64_w, i32_w]
    rfl
  refine one_ (i := 7) (N := (some 5)) #[true, true, true, true, true, true, true, true, false] rfl rfl (one_of HT_.out (by kernel_rfl)) (by decide) (fun K hK => ?_)
  refine value_ (by rfl) rfl (v := .pointer (some ⟨w3.heap.size, 0, none⟩)) (w1 := w3.alloc (.cells #[.int .i64 0, .int .i64 0] 122)) (by go_simp <;> rfl) ?_
  refine hK.out _ _ ⟨(HJ3.out.alloc _).cells.1, (HJ3.out.alloc _).cells.2.1, (HJ3.out.alloc _).cells.2.2, (HJ3.out.alloc _).md.look hkl _ rfl⟩ (fun hHeld => ?_)
  clear hK K
  refine norm_ (a' := ?_) ?_ ?_
  rotate_left
  · show Act.put _ (some 5) _ = _
    simp only [Act.put, List.setIfInBounds_toArray, List.set_cons_zero, List.set_cons_succ, i64_w, i32_w]
    rfl
  refine last_ (i := 8) (N := none) #[true, true, true, true, true, true, true, true, true] rfl rfl (one_of HT_.out (by kernel_rfl)) (by decide) (fun K hK => ?_)
  refine skip_ (by rfl) rfl (w1 := w3.alloc (.cells #[.int .i64 (m.st e.h), .int .i64 (m.dl e.h)] 122)) (by go_simp <;> rfl) ?_
  refine hK.out _ _ ?_
  clear hK K
  refine done_ (done_of HT_.out (by kernel_rfl)) ?_
  clear hHeld
  have hcx := fun i => blk_cell (HJ3.out.alloc (.cells #[.int .i64 (m.st e.h), .int .i64 (m.dl e.h)] 122)).xb i
  have hce := fun i => blk_cell (HJ3.out.alloc (.cells #[.int .i64 (m.st e.h), .int .i64 (m.dl e.h)] 122)).eb i
  have hcm := fun i => (HJ3.out.alloc (.cells #[.int .i64 (m.st e.h), .int .i64 (m.dl e.h)] 122)).md.cell i
  have HK := Aside0.mk (show Dk w (w3.alloc (.cells #[.int .i64 (m.st e.h), .int .i64 (m.dl e.h)] 122)) B b n m1 m2 m e w3.heap.size from ⟨HJ3.out.alloc _, blk_new _ _⟩)
  clear hkl
  go_upto_region 9 with (fail)
  refine gen_world' (fun W => Dk w W B b n m1 m2 m e w3.heap.size) (by exact HK.out) fun w4 HK4 => ?_
  obtain ⟨fb, hfb⟩ : ∃ fb, w3.heap.size = fb := ⟨_, rfl⟩
  rw [hfb] at HK4 ⊢
  have HK5 := Aside0.mk HK4.drew
  clear HK hfb HK4 hcx hce hlx hle hcm hlm
  refine start_ (n := 23) (S := (fun w' => (∀ i, w'.cell? ⟨b, i, none⟩ = (mdA m m1 m2)[i]?) ∧ (∀ i, w'.cell? ⟨w.heap.size, i, none⟩ = (#[pA b] : Array Value)[i]?) ∧ (∀ i, w'.cell? ⟨w.heap.size + 1, i, none⟩ = (evA e)[i]?) ∧ (∀ i, w'.cell? ⟨fb, i, none⟩ = (#[.int .i64 (m.st e.h), .int .i64 (m.dl e.h)] : Array Value)[i]?))) (ds := [21]) #[false, false, false, false, false, false, false, false, false, false, false, false, false, false, false, false, false, false, false, false, false, false, false] (by kernel_rfl) rfl rfl HK5.out.cells (fun hHeld => ?_)
  refine with_tabW doR.tab9 doR.bits9 (fun HT_ HW_ => ?_)
  have HK6 := HK5
  generalize w4.drew = w5 at HK5 HK6 hHeld ⊢
  clear HK5
  have hlm := HK6.out.dj.md.lt
  have hlx := blk_lt HK6.out.dj.xb
  have hle := blk_lt HK6.out.dj.eb
  have hlf := blk_lt HK6.out.fb
  refine pure_ (i := 0) (N := (some 36)) (v := ?_) (a' := ?_) #[true, false, false, false, false, false, false, false, false, false, false, false, false, false, false, false, false, false, false, false, false, false, false] rfl rfl (any_of HT_.out (by kernel_rfl)) (fun _ _ _ h => h) (Or.inl ⟨by rfl, ?_⟩) ?_ ?_
  rotate_left
  · intro w'
    go_simp
    with_reducible rfl
  rotate_left
  · simp only [Act.put, List.setIfInBounds_toArray, List.set_cons_zero, List.set_cons_succ, i64_w, i32_w]
    rfl
  refine pure_ (i := 1) (N := (some 37)) (v := ?_) (a' := ?_) #[true, true, false, false, false, false, false, false, false, false, false, false, false, false, false, false, false, false, false, false, false, false, false] rfl rfl (any_of HT_.out (by kernel_rfl)) (fun _ _ _ h => h) (Or.inl ⟨by rfl, ?_⟩) ?_ ?_
  rotate_left
  · intro w'
    go_simp
    with_reducible rfl
  rotate_left
  · simp only [Act.put, List.setIfInBounds_toArray, List.set_cons_zero, List.set_cons_succ, i64_w, i32_w]
    rfl
  refine pure_ (i := 2) (N := (some 38)) (v := ?_) (a' := ?_) #[true, true, true, false, false, false, false, false, false, false, false, false, false, false, false, false, false, false, false, false, false, false, false] rfl rfl (any_of HT_.out (by kernel_rfl)) (fun _ _ _ h => h) (Or.inl ⟨by rfl, ?_⟩) ?_ ?_
  rotate_left
  · intro w'
    go_simp
    with_reducible rfl
  rotate_left
  · simp only [Act.put, List.setIfInBounds_toArray, List.set_cons_zero, List.set_cons_succ, i64_w, i32_w]
    rfl
  refine pure_ (i := 4) (N := (some 40)) (v := ?_) (a' := ?_) #[true, true, true, false, true, false, false, false, false, false, false, false, false, false, false, false, false, false, false, false, false, false, false] rfl rfl (any_of HT_.out (by kernel_rfl)) (fun _ _ _ h => h) (Or.inl ⟨by rfl, ?_⟩) ?_ ?_
  rotate_left
  · intro w'
    go_simp
    with_reducible rfl
  rotate_left
  · simp only [Act.put, List.setIfInBounds_toArray, List.set_cons_zero, List.set_cons_succ, i64_w, i32_w]
    rfl
  refine pure_ (i := 18) (N := (some 54)) (v := ?_) (a' := ?_) #[true, true, true, false, true, false, false, false, false, false, false, false, false, false, false, false, false, false, true, false, false, false, false] rfl rfl (any_of HT_.out (by kernel_rfl)) (fun _ _ _ h => h) (Or.inl ⟨by rfl, ?_⟩) ?_ ?_
  rotate_left
  · intro w'
    go_simp
    with_reducible rfl
  rotate_left
  · simp only [Act.put, List.setIfInBounds_toArray, List.set_cons_zero, List.set_cons_succ, i64_w, i32_w]
    rfl
  refine take_ (i := 3) (N := (some 39)) (v := ?_) (a' := ?_) #[true, true, true, true, true, false, false, false, false, false, false, false, false, false, false, false, false, false, true, false, false, false, false] rfl rfl (take_ofW HT_.out HW_.out (by kernel_rfl)) (fun _ _ _ h => h) (Or.inl ⟨by rfl, ?_⟩) hHeld ?_ ?_
  rotate_left
  · rintro w' ⟨s0, s1, s2, s3⟩
    go_simp
    with_reducible rfl
  rotate_left
  · simp only [Act.put, List.setIfInBounds_toArray, List.set_cons_zero, List.set_cons_succ, i64_w, i32_w]
    rfl
  refine take_ (i := 5) (N := (some 41)) (v := ?_) (a' := ?_) #[true, true, true, true, true, true, false, false, false, false, false, false, false, false, false, false, false, false, true, false, false, false, false] rfl rfl (take_ofW HT_.out HW_.out (by kernel_rfl)) (fun _ _ _ h => h) (Or.inl ⟨by rfl, ?_⟩) hHeld ?_ ?_
  rotate_left
  · rintro w' ⟨s0, s1, s2, s3⟩
    go_simp
    with_reducible rfl
  rotate_left
  · simp only [Act.put, List.setIfInBounds_toArray, List.set_cons_zero, List.set_cons_succ, i64_w, i32_w]
    rfl
  refine pure_ (i := 6) (N := (some 42)) (v := ?_) (a' := ?_) #[true, true, true, true, true, true, true, false, false, false, false, false, false, false, false, false, false, false, true, false, false, false, false] rfl rfl (any_of HT_.out (by kernel_rfl)) (fun _ _ _ h => h) (Or.inl ⟨by rfl, ?_⟩) ?_ ?_
  rotate_left
  · intro w'
    go_simp
    with_reducible rfl
  rotate_left
  · simp only [Act.put, List.setIfInBounds_toArray, List.set_cons_zero, List.set_cons_succ, i64_w, i32_w]
    rfl
  refine pure_ (i := 7) (N := (some 43)) (v := ?_) (a' := ?_) #[true, true, true, true, true, true, true, true, false, false, false, false, false, false, false, false, false, false, true, false, false, false, false] rfl rfl (any_of HT_.out (by kernel_rfl)) (fun _ _ _ h => h) (Or.inl ⟨by rfl, ?_⟩) ?_ ?_
  rotate_left
  · intro w'
    go_simp
    with_reducible rfl
  rotate_left
  · simp only [Act.put, List.setIfInBounds_toArray, List.set_cons_zero, List.set_cons_succ, i64_w, i32_w]
    rfl
  refine pure_ (i := 8) (N := (some 44)) (v := ?_) (a' := ?_) #[true, true, true, true, true, true, true, true, true, false, false, false, false, false, false, false, false, false, true, false, false, false, false] rfl rfl (any_of HT_.out (by kernel_rfl)) (fun _ _ _ h => h) (Or.inl ⟨by rfl, ?_⟩) ?_ ?_
  rotate_left
  · intro w'
    go_simp
    with_reducible rfl
  rotate_left
  · simp only [Act.put, List.setIfInBounds_toArray, List.set_cons_zero, List.set_cons_succ, i64_w, i32_w]
    rfl
  refine pure_ (i := 9) (N := (some 45)) (v := undef) (a' := ?_) #[true, true, true, true, true, true, true, true, true, true, false, false, false, false, false, false, false, false, true, false, false, false, false] rfl rfl (any_of HT_.out (by kernel_rfl)) (fun _ _ _ h => h) (Or.inr ⟨by rfl, rfl⟩) ?_ ?_
  rotate_left
  · simp only [Act.put, List.setIfInBounds_toArray, List.set_cons_zero, List.set_cons_succ, i64_w, i32_w]
    rfl
  refine pure_ (i := 10) (N := (some 46)) (v := undef) (a' := ?_) #[true, true, true, true, true, true, true, true, true, true, true, false, false, false, false, false, false, false, true, false, false, false, false] rfl rfl (any_of HT_.out (by kernel_rfl)) (fun _ _ _ h => h) (Or.inr ⟨by rfl, rfl⟩) ?_ ?_
  rotate_left
  · simp only [Act.put, List.setIfInBounds_toArray, List.set_cons_zero, List.set_cons_succ, i64_w, i32_w]
    rfl
  refine pure_ (i := 11) (N := (some 47)) (v := undef) (a' := ?_) #[true, true, true, true, true, true, true, true, true, true, true, true, false, false, false, false, false, false, true, false, false, false, false] rfl rfl (any_of HT_.out (by kernel_rfl)) (fun _ _ _ h => h) (Or.inr ⟨by rfl, rfl⟩) ?_ ?_
  rotate_left
  · simp only [Act.put, List.setIfInBounds_toArray, List.set_cons_zero, List.set_cons_succ, i64_w, i32_w]
    rfl
  refine pure_ (i := 12) (N := (some 48)) (v := undef) (a' := ?_) #[true, true, true, true, true, true, true, true, true, true, true, true, true, false, false, false, false, false, true, false, false, false, false] rfl rfl (any_of HT_.out (by kernel_rfl)) (fun _ _ _ h => h) (Or.inr ⟨by rfl, rfl⟩) ?_ ?_
  rotate_left
  · simp only [Act.put, List.setIfInBounds_toArray, List.set_cons_zero, List.set_cons_succ, i64_w, i32_w]
    rfl
  refine pure_ (i := 13) (N := (some 49)) (v := undef) (a' := ?_) #[true, true, true, true, true, true, true, true, true, true, true, true, true, true, false, false, false, false, true, false, false, false, false] rfl rfl (any_of HT_.out (by kernel_rfl)) (fun _ _ _ h => h) (Or.inr ⟨by rfl, rfl⟩) ?_ ?_
  rotate_left
  · simp only [Act.put, List.setIfInBounds_toArray, List.set_cons_zero, List.set_cons_succ, i64_w, i32_w]
    rfl
  refine pure_ (i := 14) (N := (some 50)) (v := undef) (a' := ?_) #[true, true, true, true, true, true, true, true, true, true, true, true, true, true, true, false, false, false, true, false, false, false, false] rfl rfl (any_of HT_.out (by kernel_rfl)) (fun _ _ _ h => h) (Or.inr ⟨by rfl, rfl⟩) ?_ ?_
  rotate_left
  · simp only [Act.put, List.setIfInBounds_toArray, List.set_cons_zero, List.set_cons_succ, i64_w, i32_w]
    rfl
  refine pure_ (i := 15) (N := (some 51)) (v := undef) (a' := ?_) #[true, true, true, true, true, true, true, true, true, true, true, true, true, true, true, true, false, false, true, false, false, false, false] rfl rfl (any_of HT_.out (by kernel_rfl)) (fun _ _ _ h => h) (Or.inr ⟨by rfl, rfl⟩) ?_ ?_
  rotate_left
  · simp only [Act.put, List.setIfInBounds_toArray, List.set_cons_zero, List.set_cons_succ, i64_w, i32_w]
    rfl
  refine pure_ (i := 16) (N := (some 52)) (v := ?_) (a' := ?_) #[true, true, true, true, true, true, true, true, true, true, true, true, true, true, true, true, true, false, true, false, false, false, false] rfl rfl (any_of HT_.out (by kernel_rfl)) (fun _ _ _ h => h) (Or.inl ⟨by rfl, ?_⟩) ?_ ?_
  rotate_left
  · intro w'
    go_simp
    with_reducible rfl
  rotate_left
  · simp only [Act.put, List.setIfInBounds_toArray, List.set_cons_zero, List.set_cons_succ, i64_w, i32_w]
    rfl
  refine take_ (i := 17) (N := (some 53)) (v := ?_) (a' := ?_) #[true, true, true, true, true, true, true, true, true, true, true, true, true, true, true, true, true, true, true, false, false, false, false] rfl rfl (take_ofW HT_.out HW_.out (by kernel_rfl)) (fun _ _ _ h => h) (Or.inl ⟨by rfl, ?_⟩) hHeld ?_ ?_
  rotate_left
  · rintro w' ⟨s0, s1, s2, s3⟩
    go_simp
    with_reducible rfl
  rotate_left
  · simp only [Act.put, List.setIfInBounds_toArray, List.set_cons_zero, List.set_cons_succ, i64_w, i32_w]
    rfl
  refine take_ (i := 19) (N := (some 55)) (v := ?_) (a' := ?_) #[true, true, true, true, true, true, true, true, true, true, true, true, true, true, true, true, true, true, true, true, false, false, false] rfl rfl (take_ofW HT_.out HW_.out (by kernel_rfl)) (fun _ _ _ h => h) (Or.inl ⟨by rfl, ?_⟩) hHeld ?_ ?_
  rotate_left
  · rintro w' ⟨s0, s1, s2, s3⟩
    go_simp
    with_reducible rfl
  rotate_left
  · simp only [Act.put, List.setIfInBounds_toArray, List.set_cons_zero, List.set_cons_succ, i64_w, i32_w]
    rfl
  refine one_ (i := 20) (N := (some 56)) #[true, true, true, true, true, true, true, true, true, true, true, true, true, true, true, true, true, true, true, true, true, false, false] rfl rfl (one_of HT_.out (by kernel_rfl)) (by decide) (fun K hK => ?_)
  refine call_ (f := 75) #[pA b, .agg #[.int .i64 e.hn, .int .i64 e.hg], .int .i64 2] (by rfl) rfl (by go_simp <;> rfl) ?_
  refine (end_new b e.hn e.hg 2 w5).mono ?_
  rintro r w6 ⟨sb, xb, hb, rfl, h3, hb2⟩
  refine ⟨_, rfl, ?_⟩
  have HE := Aside0.mk (And.intro h3 (HK6.out.step hb2))
  clear h3 hb2
  refine hK.out _ _ HE.out.2.cells (fun hHeld => ?_)
  clear hK K
  refine norm_ (a' := ?_) ?_ ?_
  rotate_left
  · show Act.put _ (some 56) _ = _
    simp only [Act.put, List.setIfInBounds_toArray, List.set_cons_zero, List.set_cons_succ, i64_w, i32_w]
    rfl
  refine last_ (i := 21) (N := (some 57)) #[true, true, true, true, true, true, true, true, true, true, true, true, true, true, true, true, true, true, true, true, true, true, false] rfl rfl (one_of HT_.out (by kernel_rfl)) (by decide) (fun K hK => ?_)
  refine call_ (f := 73) #[.bool false, .func (.func 99) #[] #[pA sb, pA xb, pA hb]] (by rfl) rfl (by first | (go_simp <;> rfl) | (simp only [HTC.out]; go_simp <;> rfl)) ?_
  refine (un_end false 2 e.hn e.hg (by have := HN.out; omega) HW.out.1 HW.out.2.1 HE.out.2.dj.md HE.out.1).mono ?_
  rintro r w7 ⟨rfl, hm, hf⟩
  refine ⟨_, rfl, ?_⟩
  have HM := Aside0.mk (And.intro hm (HE.out.2.dj.fr.trans hf))
  clear hm hf
  refine hK.out _ _ ?_
  clear hK K
  refine norm_ (a' := ?_) ?_ ?_
  rotate_left
  · show Act.put _ (some 57) _ = _
    simp only [Act.put, List.setIfInBounds_toArray, List.set_cons_zero, List.set_cons_succ, i64_w, i32_w]
    rfl
  refine pure_ (i := 22) (N := (some 4)) (v := ?_) (a' := ?_) #[true, true, true, true, true, true, true, true, true, true, true, true, true, true, true, true, true, true, true, true, true, true, true] rfl rfl (any_of HT_.out (by kernel_rfl)) (fun _ _ _ h => h) (Or.inl ⟨by rfl, ?_⟩) ?_ ?_
  rotate_left
  · intro w'
    go_simp
    with_reducible rfl
  rotate_left
  · simp only [Act.put, List.setIfInBounds_toArray, List.set_cons_zero, List.set_cons_succ, i64_w, i32_w]
    rfl
  refine done_ (done_of HT_.out (by kernel_rfl)) ?_
  go_wp2
  go_ret
  exact DoPost.of HF.out rfl HM.out.1 HM.out.2
set_option maxHeartbeats 4000000 in
set_option maxRecDepth 100000 in
theorem do_fire {w : World} {B b n m1 m2 : Nat} {m : Md} (e : Ev) (hw : (Lit.int .i64 e.hn).wf = true ∧ (Lit.int .i64 e.hg).wf = true ∧ (Lit.int .i64 e.nn).wf = true ∧ (Lit.int .i64 e.ng).wf = true) (hn : n + 1 ≤ 1000000) (hwl : ∀ x, (Lit.int .i64 ((m.lst x).getD 0)).wf = true) (h : MdIs w B b n m m1 m2) (hr : rightJ e = true) (hk : e.k = 4) (ha : m.st e.h = 1) (hd : m.dl e.h ≤ e.t) :
    Calls Try.prog 43 #[pA b, .agg (evA e)] w (DoPost w B b n m1 m2 (doF m e)) := by
  have hu0 := Try.underlying125
  have hu1 := Try.underlying34
  have hu2 := Try.underlying54
  have hu3 := Try.underlying122
  have hmf : ∀ (fn : Fn) (first cap : Array Value) (w : World), (Instr.makeFunc fn first cap).run Try.prog w = .ok (.func fn first cap) w := fun _ _ _ _ => rfl
  have HF := Aside0.mk (show doF m e = unF (decide (e.t ≤ m.clk)) (m.end_ e.h 2) m by unfold doF; rw [if_neg (by rw [hr]; simp), if_neg (by omega), if_pos hk]; unfold unF; by_cases ht : e.t ≤ m.clk <;> simp [ha, hd, ht])
  have k1 : (e.k == 1) = false := beq_eq_false_iff_ne.2 (by omega)
  have k4 : (e.k == 4) = true := beq_iff_eq.2 (hk)
  have k3 : (e.k == 3) = false := beq_eq_false_iff_ne.2 (by omega)
  have a1 : ((m.st e.h) == 1) = true := beq_iff_eq.2 (ha)
  have d1 : decide (m.dl e.h ≤ e.t) = true := decide_eq_true hd
  have CR := Aside0.mk (fun W => right_run e W)
  rw [hr] at CR
  have HW := Aside0.mk hw
  have HN := Aside0.mk hn
  have HWL := Aside0.mk hwl
  have HJ := Aside0.mk (Dj.start h e)
  clear hw hn hwl h hr hk ha hd
  have hcx := fun i => blk_cell HJ.out.xb i
  have hce := fun i => blk_cell HJ.out.eb i
  have hlx := blk_lt HJ.out.xb
  have hle := blk_lt HJ.out.eb
  have hcm := fun i => HJ.out.md.cell i
  have hlm := HJ.out.md.lt
  go_enter Try.func43, Try.ntmps43
  go_wp2_with (first | (go_at_call 65; (with_reducible refine (CR.out _).mono ?_); rintro r w2 ⟨rfl, hb2⟩; have HJ2 := Aside0.mk (HJ.out.step hb2); clear hb2 hcx hce hlx hle hcm hlm; have HJ := HJ2; have hcx := fun i => blk_cell HJ.out.xb i; have hce := fun i => blk_cell HJ.out.eb i; have hlx := blk_lt HJ.out.xb; have hle := blk_lt HJ.out.eb; have hcm := fun i => HJ.out.md.cell i; have hlm := HJ.out.md.lt))
  obtain ⟨kl, hkl⟩ := keyH e.hn e.hg HW.out.1 HW.out.2.1
  refine start_ (n := 9) (S := (fun w' => (∀ i, w'.cell? ⟨b, i, none⟩ = (mdA m m1 m2)[i]?) ∧ (∀ i, w'.cell? ⟨w.heap.size, i, none⟩ = (#[pA b] : Array Value)[i]?) ∧ (∀ i, w'.cell? ⟨w.heap.size + 1, i, none⟩ = (evA e)[i]?) ∧ (Instr.lookup 123 (.map (some m1)) (haV e.h) false).run Try.prog w' = .ok (.agg #[.int .i64 (m.st e.h), .int .i64 (m.dl e.h)]) w')) (ds := [8]) #[false, false, false, false, false, false, false, false, false] (by kernel_rfl) rfl rfl ⟨HJ.out.drew.cells.1, HJ.out.drew.cells.2.1, HJ.out.drew.cells.2.2, HJ.out.drew.md.look hkl _ rfl⟩ (fun hHeld => ?_)
  refine with_tabW doR.tab3 doR.bits3 (fun HT_ HW_ => ?_)
  have HJ3 := Aside0.mk HJ.out.drew
  generalize World.drew _ = w3 at HJ3 hHeld ⊢
  clear HJ hcx hce hlx hle hcm hlm
  have hlx := blk_lt HJ3.out.xb
  have hle := blk_lt HJ3.out.eb
  have hlm := HJ3.out.md.lt
  refine pure_ (i := 4) (N := (some 14)) (v := ?_) (a' := ?_) #[false, false, false, false, true, false, false, false, false] rfl rfl (any_of HT_.out (by kernel_rfl)) (fun _ _ _ h => h) (Or.inl ⟨by rfl, ?_⟩) ?_ ?_
  rotate_left
  · intro w'
    go_simp
    with_reducible rfl
  rotate_left
  · simp only [Act.put, List.setIfInBounds_toArray, List.set_cons_zero, List.set_cons_succ, i64_w, i32_w]
    rfl
  refine take_ (i := 0) (N := (some 10)) (v := ?_) (a' := ?_) #[true, false, false, false, true, false, false, false, false] rfl rfl (take_ofW HT_.out HW_.out (by kernel_rfl)) (fun _ _ _ h => h) (Or.inl ⟨by rfl, ?_⟩) hHeld ?_ ?_
  rotate_left
  · rintro w' ⟨s0, s1, s2, s3⟩
    go_simp
    with_reducible rfl
  rotate_left
  · simp only [Act.put, List.setIfInBounds_toArray, List.set_cons_zero, List.set_cons_succ, i64_w, i32_w]
    rfl
  refine pure_ (i := 1) (N := (some 11)) (v := ?_) (a' := ?_) #[true, true, false, false, true, false, false, false, false] rfl rfl (any_of HT_.out (by kernel_rfl)) (fun _ _ _ h => h) (Or.inl ⟨by rfl, ?_⟩) ?_ ?_
  rotate_left
  · intro w'
    go_simp
    with_reducible rfl
  rotate_left
  · simp only [Act.put, List.setIfInBounds_toArray, List.set_cons_zero, List.set_cons_succ, i64_w, i32_w]
    rfl
  refine pure_ (i := 2) (N := (some 12)) (v := ?_) (a' := ?_) #[true, true, true, false, true, false, false, false, false] rfl rfl (any_of HT_.out (by kernel_rfl)) (fun _ _ _ h => h) (Or.inl ⟨by rfl, ?_⟩) ?_ ?_
  rotate_left
  · intro w'
    go_simp
    with_reducible rfl
  rotate_left
  · simp only [Act.put, List.setIfInBounds_toArray, List.set_cons_zero, List.set_cons_succ, i64_w, i32_w]
    rfl
  refine take_ (i := 3) (N := (some 13)) (v := ?_) (a' := ?_) #[true, true, true, true, true, false, false, false, false] rfl rfl (take_ofW HT_.out HW_.out (by kernel_rfl)) (fun _ _ _ h => h) (Or.inl ⟨by rfl, ?_⟩) hHeld ?_ ?_
  rotate_left
  · rintro w' ⟨s0, s1, s2, s3⟩
    go_simp
    with_reducible rfl
  rotate_left
  · simp only [Act.put, List.setIfInBounds_toArray, List.set_cons_zero, List.set_cons_succ, i64_w, i32_w]
    rfl
  refine take_ (i := 5) (N := (some 15)) (v := ?_) (a' := ?_) #[true, true, true, true, true, true, false, false, false] rfl rfl (take_ofW HT_.out HW_.out (by kernel_rfl)) (fun _ _ _ h => h) (Or.inl ⟨by rfl, ?_⟩) hHeld ?_ ?_
  rotate_left
  · rintro w' ⟨s0, s1, s2, s3⟩
    go_simp
    with_reducible rfl
  rotate_left
  · simp only [Act.put, List.setIfInBounds_toArray, List.set_cons_zero, List.set_cons_succ, i64_w, i32_w]
    rfl
  refine take_ (i := 6) (N := (some 16)) (v := ?_) (a' := ?_) #[true, true, true, true, true, true, true, false, false] rfl rfl (take_ofW HT_.out HW_.out (by kernel_rfl)) (fun _ _ _ h => h) (Or.inl ⟨by rfl, ?_⟩) hHeld ?_ ?_
  rotate_left
  · rintro w' ⟨s0, s1, s2, s3⟩
    go_simp
    with_reducible rfl
  rotate_left
  · simp only [Act.put, List.setIfInBounds_toArray, List.set_cons_zero, List.set_cons_succ, i64_w, i32_w]
    rfl
  refine one_ (i := 7) (N := (some 5)) #[true, true, true, true, true, true, true, true, false] rfl rfl (one_of HT_.out (by kernel_rfl)) (by decide) (fun K hK => ?_)
  refine value_ (by rfl) rfl (v := .pointer (some ⟨w3.heap.size, 0, none⟩)) (w1 := w3.alloc (.cells #[.int .i64 0, .int .i64 0] 122)) (by go_simp <;> rfl) ?_
  refine hK.out _ _ ⟨(HJ3.out.alloc _).cells.1, (HJ3.out.alloc _).cells.2.1, (HJ3.out.alloc _).cells.2.2, (HJ3.out.alloc _).md.look hkl _ rfl⟩ (fun hHeld => ?_)
  clear hK K
  refine norm_ (a' := ?_) ?_ ?_
  rotate_left
  · show Act.put _ (some 5) _ = _
    simp only [Act.put, List.setIfInBounds_toArray, List.set_cons_zero, List.set_cons_succ, i64_w, i32_w]
    rfl
  refine last_ (i := 8) (N := none) #[true, true, true, true, true, true, true, true, true] rfl rfl (one_of HT_.out (by kernel_rfl)) (by decide) (fun K hK => ?_)
  refine skip_ (by rfl) rfl (w1 := w3.alloc (.cells #[.int .i64 (m.st e.h), .int .i64 (m.dl e.h)] 122)) (by go_simp <;> rfl) ?_
  refine hK.out _ _ ?_
  clear hK K
  refine done_ (done_of HT_.out (by kernel_rfl)) ?_
  clear hHeld
  have hcx := fun i => blk_cell (HJ3.out.alloc (.cells #[.int .i64 (m.st e.h), .int .i64 (m.dl e.h)] 122)).xb i
  have hce := fun i => blk_cell (HJ3.out.alloc (.cells #[.int .i64 (m.st e.h), .int .i64 (m.dl e.h)] 122)).eb i
  have hcm := fun i => (HJ3.out.alloc (.cells #[.int .i64 (m.st e.h), .int .i64 (m.dl e.h)] 122)).md.cell i
  have HK := Aside0.mk (show Dk w (w3.alloc (.cells #[.int .i64 (m.st e.h), .int .i64 (m.dl e.h)] 122)) B b n m1 m2 m e w3.heap.size from ⟨HJ3.out.alloc _, blk_new _ _⟩)
  clear hkl
  go_upto_region 9 with (fail)
  refine gen_world' (fun W => Dk w W B b n m1 m2 m e w3.heap.size) (by exact HK.out) fun w4 HK4 => ?_
  obtain ⟨fb, hfb⟩ : ∃ fb, w3.heap.size = fb := ⟨_, rfl⟩
  rw [hfb] at HK4 ⊢
  have HK5 := Aside0.mk HK4.drew
  clear HK hfb HK4 hcx hce hlx hle hcm hlm
  refine start_ (n := 23) (S := (fun w' => (∀ i, w'.cell? ⟨b, i, none⟩ = (mdA m m1 m2)[i]?) ∧ (∀ i, w'.cell? ⟨w.heap.size, i, none⟩ = (#[pA b] : Array Value)[i]?) ∧ (∀ i, w'.cell? ⟨w.heap.size + 1, i, none⟩ = (evA e)[i]?) ∧ (∀ i, w'.cell? ⟨fb, i, none⟩ = (#[.int .i64 (m.st e.h), .int .i64 (m.dl e.h)] : Array Value)[i]?))) (ds := [21]) #[false, false, false, false, false, false, false, false, false, false, false, false, false, false, false, false, false, false, false, false, false, false, false] (by kernel_rfl) rfl rfl HK5.out.cells (fun hHeld => ?_)
  refine with_tabW doR.tab9 doR.bits9 (fun HT_ HW_ => ?_)
  have HK6 := HK5
  generalize w4.drew = w5 at HK5 HK6 hHeld ⊢
  clear HK5
  have hlm := HK6.out.dj.md.lt
  have hlx := blk_lt HK6.out.dj.xb
  have hle := blk_lt HK6.out.dj.eb
  have hlf := blk_lt HK6.out.fb
  refine pure_ (i := 0) (N := (some 36)) (v := ?_) (a' := ?_) #[true, false, false, false, false, false, false, false, false, false, false, false, false, false, false, false, false, false, false, false, false, false, false] rfl rfl (any_of HT_.out (by kernel_rfl)) (fun _ _ _ h => h) (Or.inl ⟨by rfl, ?_⟩) ?_ ?_
  rotate_left
  · intro w'
    go_simp
    with_reducible rfl
  rotate_left
  · simp only [Act.put, List.setIfInBounds_toArray, List.set_cons_zero, List.set_cons_succ, i64_w, i32_w]
    rfl
  refine pure_ (i := 1) (N := (some 37)) (v := ?_) (a' := ?_) #[true, true, false, false, false, false, false, false, false, false, false, false, false, false, false, false, false, false, false, false, false, false, false] rfl rfl (any_of HT_.out (by kernel_rfl)) (fun _ _ _ h => h) (Or.inl ⟨by rfl, ?_⟩) ?_ ?_
  rotate_left
  · intro w'
    go_simp
    with_reducible rfl
  rotate_left
  · simp only [Act.put, List.setIfInBounds_toArray, List.set_cons_zero, List.set_cons_succ, i64_w, i32_w]
    rfl
  refine pure_ (i := 2) (N := (some 38)) (v := ?_) (a' := ?_) #[true, true, true, false, false, false, false, false, false, false, false, false, false, false, false, false, false, false, false, false, false, false, false] rfl rfl (any_of HT_.out (by kernel_rfl)) (fun _ _ _ h => h) (Or.inl ⟨by rfl, ?_⟩) ?_ ?_
  rotate_left
  · intro w'
    go_simp
    with_reducible rfl
  rotate_left
  · simp only [Act.put, List.setIfInBounds_toArray, List.set_cons_zero, List.set_cons_succ, i64_w, i32_w]
    rfl
  refine pure_ (i := 4) (N := (some 40)) (v := ?_) (a' := ?_) #[true, true, true, false, true, false, false, false, false, false, false, false, false, false, false, false, false, false, false, false, false, false, false] rfl rfl (any_of HT_.out (by kernel_rfl)) (fun _ _ _ h => h) (Or.inl ⟨by rfl, ?_⟩) ?_ ?_
  rotate_left
  · intro w'
    go_simp
    with_reducible rfl
  rotate_left
  · simp only [Act.put, List.setIfInBounds_toArray, List.set_cons_zero, List.set_cons_succ, i64_w, i32_w]
    rfl
  refine pure_ (i := 18) (N := (some 54)) (v := ?_) (a' := ?_) #[true, true, true, false, true, false, false, false, false, false, false, false, false, false, false, false, false, false, true, false, false, false, false] rfl rfl (any_of HT_.out (by kernel_rfl)) (fun _ _ _ h => h) (Or.inl ⟨by rfl, ?_⟩) ?_ ?_
  rotate_left
  · intro w'
    go_simp
    with_reducible rfl
  rotate_left
  · simp only [Act.put, List.setIfInBounds_toArray, List.set_cons_zero, List.set_cons_succ, i64_w, i32_w]
    rfl
  refine take_ (i := 3) (N := (some 39)) (v := ?_) (a' := ?_) #[true, true, true, true, true, false, false, false, false, false, false, false, false, false, false, false, false, false, true, false, false, false, false] rfl rfl (take_ofW HT_.out HW_.out (by kernel_rfl)) (fun _ _ _ h => h) (Or.inl ⟨by rfl, ?_⟩) hHeld ?_ ?_
  rotate_left
  · rintro w' ⟨s0, s1, s2, s3⟩
    go_simp
    with_reducible rfl
  rotate_left
  · simp only [Act.put, List.setIfInBounds_toArray, List.set_cons_zero, List.set_cons_succ, i64_w, i32_w]
    rfl
  refine take_ (i := 5) (N := (some 41)) (v := ?_) (a' := ?_) #[true, true, true, true, true, true, false, false, false, false, false, false, false, false, false, false, false, false, true, false, false, false, false] rfl rfl (take_ofW HT_.out HW_.out (by kernel_rfl)) (fun _ _ _ h => h) (Or.inl ⟨by rfl, ?_⟩) hHeld ?_ ?_
  rotate_left
  · rintro w' ⟨s0, s1, s2, s3⟩
    go_simp
    with_reducible rfl
  rotate_left
  · simp only [Act.put, List.setIfInBounds_toArray, List.set_cons_zero, List.set_cons_succ, i64_w, i32_w]
    rfl
  refine pure_ (i := 6) (N := (some 42)) (v := ?_) (a' := ?_) #[true, true, true, true, true, true, true, false, false, false, false, false, false, false, false, false, false, false, true, false, false, false, false] rfl rfl (any_of HT_.out (by kernel_rfl)) (fun _ _ _ h => h) (Or.inl ⟨by rfl, ?_⟩) ?_ ?_
  rotate_left
  · intro w'
    go_simp
    with_reducible rfl
  rotate_left
  · simp only [Act.put, List.setIfInBounds_toArray, List.set_cons_zero, List.set_cons_succ, i64_w, i32_w]
    rfl
  refine pure_ (i := 7) (N := (some 43)) (v := ?_) (a' := ?_) #[true, true, true, true, true, true, true, true, false, false, false, false, false, false, false, false, false, false, true, false, false, false, false] rfl rfl (any_of HT_.out (by kernel_rfl)) (fun _ _ _ h => h) (Or.inl ⟨by rfl, ?_⟩) ?_ ?_
  rotate_left
  · intro w'
    go_simp
    with_reducible rfl
  rotate_left
  · simp only [Act.put, List.setIfInBounds_toArray, List.set_cons_zero, List.set_cons_succ, i64_w, i32_w]
    rfl
  refine pure_ (i := 8) (N := (some 44)) (v := ?_) (a' := ?_) #[true, true, true, true, true, true, true, true, true, false, false, false, false, false, false, false, false, false, true, false, false, false, false] rfl rfl (any_of HT_.out (by kernel_rfl)) (fun _ _ _ h => h) (Or.inl ⟨by rfl, ?_⟩) ?_ ?_
  rotate_left
  · intro w'
    go_simp
    with_reducible rfl
  rotate_left
  · simp only [Act.put, List.setIfInBounds_toArray, List.set_cons_zero, List.set_cons_succ, i64_w, i32_w]
    rfl
  refine pure_ (i := 9) (N := (some 45)) (v := ?_) (a' := ?_) #[true, true, true, true, true, true, true, true, true, true, false, false, false, false, false, false, false, false, true, false, false, false, false] rfl rfl (any_of HT_.out (by kernel_rfl)) (fun _ _ _ h => h) (Or.inl ⟨by rfl, ?_⟩) ?_ ?_
  rotate_left
  · intro w'
    go_simp
    with_reducible rfl
  rotate_left
  · simp only [Act.put, List.setIfInBounds_toArray, List.set_cons_zero, List.set_cons_succ, i64_w, i32_w]
    rfl
  refine take_ (i := 10) (N := (some 46)) (v := ?_) (a' := ?_) #[true, true, true, true, true, true, true, true, true, true, true, false, false, false, false, false, false, false, true, false, false, false, false] rfl rfl (take_ofW HT_.out HW_.out (by kernel_rfl)) (fun _ _ _ h => h) (Or.inl ⟨by rfl, ?_⟩) hHeld ?_ ?_
  rotate_left
  · rintro w' ⟨s0, s1, s2, s3⟩
    go_simp
    with_reducible rfl
  rotate_left
  · simp only [Act.put, List.setIfInBounds_toArray, List.set_cons_zero, List.set_cons_succ, i64_w, i32_w]
    rfl
  refine take_ (i := 11) (N := (some 47)) (v := ?_) (a' := ?_) #[true, true, true, true, true, true, true, true, true, true, true, true, false, false, false, false, false, false, true, false, false, false, false] rfl rfl (take_ofW HT_.out HW_.out (by kernel_rfl)) (fun _ _ _ h => h) (Or.inl ⟨by rfl, ?_⟩) hHeld ?_ ?_
  rotate_left
  · rintro w' ⟨s0, s1, s2, s3⟩
    go_simp
    with_reducible rfl
  rotate_left
  · simp only [Act.put, List.setIfInBounds_toArray, List.set_cons_zero, List.set_cons_succ, i64_w, i32_w]
    rfl
  refine pure_ (i := 12) (N := (some 48)) (v := ?_) (a' := ?_) #[true, true, true, true, true, true, true, true, true, true, true, true, true, false, false, false, false, false, true, false, false, false, false] rfl rfl (any_of HT_.out (by kernel_rfl)) (fun _ _ _ h => h) (Or.inl ⟨by rfl, ?_⟩) ?_ ?_
  rotate_left
  · intro w'
    go_simp
    with_reducible rfl
  rotate_left
  · simp only [Act.put, List.setIfInBounds_toArray, List.set_cons_zero, List.set_cons_succ, i64_w, i32_w]
    rfl
  refine pure_ (i := 13) (N := (some 49)) (v := ?_) (a' := ?_) #[true, true, true, true, true, true, true, true, true, true, true, true, true, true, false, false, false, false, true, false, false, false, false] rfl rfl (any_of HT_.out (by kernel_rfl)) (fun _ _ _ h => h) (Or.inl ⟨by rfl, ?_⟩) ?_ ?_
  rotate_left
  · intro w'
    go_simp
    with_reducible rfl
  rotate_left
  · simp only [Act.put, List.setIfInBounds_toArray, List.set_cons_zero, List.set_cons_succ, i64_w, i32_w]
    rfl
  refine take_ (i := 14) (N := (some 50)) (v := ?_) (a' := ?_) #[true, true, true, true, true, true, true, true, true, true, true, true, true, true, true, false, false, false, true, false, false, false, false] rfl rfl (take_ofW HT_.out HW_.out (by kernel_rfl)) (fun _ _ _ h => h) (Or.inl ⟨by rfl, ?_⟩) hHeld ?_ ?_
  rotate_left
  · rintro w' ⟨s0, s1, s2, s3⟩
    go_simp
    with_reducible rfl
  rotate_left
  · simp only [Act.put, List.setIfInBounds_toArray, List.set_cons_zero, List.set_cons_succ, i64_w, i32_w]
    rfl
  refine pure_ (i := 15) (N := (some 51)) (v := ?_) (a' := ?_) #[true, true, true, true, true, true, true, true, true, true, true, true, true, true, true, true, false, false, true, false, false, false, false] rfl rfl (any_of HT_.out (by kernel_rfl)) (fun _ _ _ h => h) (Or.inl ⟨by rfl, ?_⟩) ?_ ?_
  rotate_left
  · intro w'
    go_simp
    with_reducible rfl
  rotate_left
  · simp only [Act.put, List.setIfInBounds_toArray, List.set_cons_zero, List.set_cons_succ, i64_w, i32_w]
    rfl
  refine pure_ (i := 16) (N := (some 52)) (v := ?_) (a' := ?_) #[true, true, true, true, true, true, true, true, true, true, true, true, true, true, true, true, true, false, true, false, false, false, false] rfl rfl (any_of HT_.out (by kernel_rfl)) (fun _ _ _ h => h) (Or.inl ⟨by rfl, ?_⟩) ?_ ?_
  rotate_left
  · intro w'
    go_simp
    with_reducible rfl
  rotate_left
  · simp only [Act.put, List.setIfInBounds_toArray, List.set_cons_zero, List.set_cons_succ, i64_w, i32_w]
    rfl
  refine take_ (i := 17) (N := (some 53)) (v := ?_) (a' := ?_) #[true, true, true, true, true, true, true, true, true, true, true, true, true, true, true, true, true, true, true, false, false, false, false] rfl rfl (take_ofW HT_.out HW_.out (by kernel_rfl)) (fun _ _ _ h => h) (Or.inl ⟨by rfl, ?_⟩) hHeld ?_ ?_
  rotate_left
  · rintro w' ⟨s0, s1, s2, s3⟩
    go_simp
    with_reducible rfl
  rotate_left
  · simp only [Act.put, List.setIfInBounds_toArray, List.set_cons_zero, List.set_cons_succ, i64_w, i32_w]
    rfl
  refine take_ (i := 19) (N := (some 55)) (v := ?_) (a' := ?_) #[true, true, true, true, true, true, true, true, true, true, true, true, true, true, true, true, true, true, true, true, false, false, false] rfl rfl (take_ofW HT_.out HW_.out (by kernel_rfl)) (fun _ _ _ h => h) (Or.inl ⟨by rfl, ?_⟩) hHeld ?_ ?_
  rotate_left
  · rintro w' ⟨s0, s1, s2, s3⟩
    go_simp
    with_reducible rfl
  rotate_left
  · simp only [Act.put, List.setIfInBounds_toArray, List.set_cons_zero, List.set_cons_succ, i64_w, i32_w]
    rfl
  refine one_ (i := 20) (N := (some 56)) #[true, true, true, true, true, true, true, true, true, true, true, true, true, true, true, true, true, true, true, true, true, false, false] rfl rfl (one_of HT_.out (by kernel_rfl)) (by decide) (fun K hK => ?_)
  refine call_ (f := 75) #[pA b, .agg #[.int .i64 e.hn, .int .i64 e.hg], .int .i64 2] (by rfl) rfl (by go_simp <;> rfl) ?_
  refine (end_new b e.hn e.hg 2 w5).mono ?_
  rintro r w6 ⟨sb, xb, hb, rfl, h3, hb2⟩
  refine ⟨_, rfl, ?_⟩
  have HE := Aside0.mk (And.intro h3 (HK6.out.step hb2))
  clear h3 hb2
  refine hK.out _ _ HE.out.2.cells (fun hHeld => ?_)
  clear hK K
  refine norm_ (a' := ?_) ?_ ?_
  rotate_left
  · show Act.put _ (some 56) _ = _
    simp only [Act.put, List.setIfInBounds_toArray, List.set_cons_zero, List.set_cons_succ, i64_w, i32_w]
    rfl
  refine last_ (i := 21) (N := (some 57)) #[true, true, true, true, true, true, true, true, true, true, true, true, true, true, true, true, true, true, true, true, true, true, false] rfl rfl (one_of HT_.out (by kernel_rfl)) (by decide) (fun K hK => ?_)
  refine call_ (f := 73) #[.bool (decide (e.t ≤ m.clk)), .func (.func 99) #[] #[pA sb, pA xb, pA hb]] (by rfl) rfl (by first | (go_simp <;> rfl) | (simp only [HTC.out]; go_simp <;> rfl)) ?_
  refine (un_end (decide (e.t ≤ m.clk)) 2 e.hn e.hg (by have := HN.out; omega) HW.out.1 HW.out.2.1 HE.out.2.dj.md HE.out.1).mono ?_
  rintro r w7 ⟨rfl, hm, hf⟩
  refine ⟨_, rfl, ?_⟩
  have HM := Aside0.mk (And.intro hm (HE.out.2.dj.fr.trans hf))
  clear hm hf
  refine hK.out _ _ ?_
  clear hK K
  refine norm_ (a' := ?_) ?_ ?_
  rotate_left
  · show Act.put _ (some 57) _ = _
    simp only [Act.put, List.setIfInBounds_toArray, List.set_cons_zero, List.set_cons_succ, i64_w, i32_w]
    rfl
  refine pure_ (i := 22) (N := (some 4)) (v := ?_) (a' := ?_) #[true, true, true, true, true, true, true, true, true, true, true, true, true, true, true, true, true, true, true, true, true, true, true] rfl rfl (any_of HT_.out (by kernel_rfl)) (fun _ _ _ h => h) (Or.inl ⟨by rfl, ?_⟩) ?_ ?_
  rotate_left
  · intro w'
    go_simp
    with_reducible rfl
  rotate_left
  · simp only [Act.put, List.setIfInBounds_toArray, List.set_cons_zero, List.set_cons_succ, i64_w, i32_w]
    rfl
  refine done_ (done_of HT_.out (by kernel_rfl)) ?_
  go_wp2
  go_ret
  exact DoPost.of HF.out rfl HM.out.1 HM.out.2
theorem do_any {w : World} {B b n m1 m2 : Nat} {m : Md} (e : Ev) (hw : (Lit.int .i64 e.hn).wf = true ∧ (Lit.int .i64 e.hg).wf = true ∧ (Lit.int .i64 e.nn).wf = true ∧ (Lit.int .i64 e.ng).wf = true) (hn : n + 1 ≤ 1000000) (hwl : ∀ x, (Lit.int .i64 ((m.lst x).getD 0)).wf = true) (h : MdIs w B b n m m1 m2) :
    Calls Try.prog 43 #[pA b, .agg (evA e)] w (DoPost w B b n m1 m2 (doF m e)) := by
  cases hr : rightJ e with
  | false => exact do_wrong e hw hn hwl h hr
  | true =>
    have hk : e.k = 1 ∨ e.k = 2 ∨ e.k = 3 ∨ e.k = 4 ∨ e.k = 5 := by
      have h := hr
      unfold rightJ Ev.evRight Ev.kindB at h
      simp at h
      omega
    rcases hk with hk | hk | hk | hk | hk
    · exact do_tick e hw hn hwl h hr hk
    · exact do_other e hw hn hwl h hr (.inl hk)
    · exact do_point e hw hn hwl h hr hk
    · by_cases ha : m.st e.h = 1
      · by_cases hd : m.dl e.h ≤ e.t
        · exact do_fire e hw hn hwl h hr hk ha hd
        · exact do_fire_early e hw hn hwl h hr hk ha hd
      · exact do_fire_no e hw hn hwl h hr hk ha
    · exact do_other e hw hn hwl h hr (.inr hk)
end Go.Proofs.Ythniclbmpeklmaa.Ju
end
section
namespace Go.Proofs.Ythniclbmpeklmaa.Ju
open Go.RowKit Go.Maps Go.Proofs.YthniclbmpeklmaaW.PrintWords Go.Proofs.YthniclbmpeklmaaW.PrintLast Go.Proofs.YthniclbmpeklmaaW.PrintMore Go.Proofs.Ythniclbmpeklmaa.Mp Go.Proofs.Ythniclbmpeklmaa.Au
set_option linter.unusedVariables false
set_option linter.unusedSimpArgs false
attribute [local go_sem high] Ev.eqHa
/-- What a walk over a bench stands on: the bench, and the box of the event. -/
structure Bj (w W : World) (B b n mb m1 m2 m3 : Nat) (s : Be) (pf : Int → Option Nat) (e : Ev) (eb : Nat) : Prop where
  be : BeIs W B b n s mb m1 m2 m3 pf
  eb_ : W.heap[eb]? = some (.cells (evA e) 54 (0, 0))
  bel : Below B w W
  hB : B ≤ w.heap.size
  he : B ≤ eb
section
variable {w W W1 : World} {B b n mb m1 m2 m3 eb : Nat} {s : Be} {pf : Int → Option Nat} {e : Ev}
theorem Bj.start (h : BeIs w B b n s mb m1 m2 m3 pf) (hB : B ≤ w.heap.size) (e : Ev) : Bj w (w.alloc (.cells (evA e) 54)) B b n mb m1 m2 m3 s pf e w.heap.size :=
  ⟨h.alloc _, blk_new _ _, below_then (Below.refl B w) (by omega) (below_alloc (Below.refl _ _) _), hB, hB⟩
theorem Bj.step (h : Bj w W B b n mb m1 m2 m3 s pf e eb) (hb : Below W.heap.size W W1) : Bj w W1 B b n mb m1 m2 m3 s pf e eb := ⟨h.be.below hb, blk_below h.eb_ hb, below_then h.bel (by have := h.bel.size; have := h.hB; omega) hb, h.hB, h.he⟩
theorem Bj.alloc (h : Bj w W B b n mb m1 m2 m3 s pf e eb) (o : Obj) : Bj w (W.alloc o) B b n mb m1 m2 m3 s pf e eb := h.step (below_alloc (Below.refl _ _) o)
theorem Bj.drew (h : Bj w W B b n mb m1 m2 m3 s pf e eb) : Bj w W.drew B b n mb m1 m2 m3 s pf e eb := ⟨h.be.drew, h.eb_, below_drew h.bel, h.hB, h.he⟩
theorem Bj.drewN (h : Bj w W B b n mb m1 m2 m3 s pf e eb) (q : Nat) : Bj w (W.drewN q) B b n mb m1 m2 m3 s pf e eb := ⟨h.be.drewN q, h.eb_, pw_below_drewN h.bel q, h.hB, h.he⟩
theorem Bj.cells (h : Bj w W B b n mb m1 m2 m3 s pf e eb) : (∀ i, W.cell? ⟨b, i, none⟩ = (beA s.nw mb m3)[i]?) ∧ (∀ i, W.cell? ⟨eb, i, none⟩ = (evA e)[i]?) := ⟨fun i => h.be.cell i, fun i => blk_cell h.eb_ i⟩
/-- The model has turned. -/
theorem Bj.model {n' : Nat} {m' : Md} (h : Bj w W B b n mb m1 m2 m3 s pf e eb) (hm : MdIs W1 B mb n' m' m1 m2) (hn : n ≤ n') (hf : Fr W W1 (mdS mb m1 m2)) : Bj w W1 B b n' mb m1 m2 m3 { s with m := m' } pf e eb := by
  refine ⟨h.be.model hm hn hf, hf.blk h.eb_ ?_, h.bel.trans (hf.below ?_ ?_), h.hB, h.he⟩
  · rintro (q | q | q)
    · exact types_ne h.eb_ h.be.md.blk (by decide) q
    · obtain ⟨z, _, hz⟩ := h.be.md.mf; obtain ⟨_, _, hq⟩ := hz.block; exact map_ne h.eb_ hq q
    · obtain ⟨z, _, hz⟩ := h.be.md.ml; obtain ⟨_, _, hq⟩ := hz.block; exact map_ne h.eb_ hq q
  · have := h.bel.size; have := h.hB; omega
  · rintro g (q | q | q)
    · rw [q]; exact h.be.md.hb
    · rw [q]; exact h.be.md.h1
    · rw [q]; exact h.be.md.h2
end
/-- .. and a worker's work. -/
structure Wj (w W : World) (B b n mb m1 m2 m3 : Nat) (s : Be) (pf : Int → Option Nat) (e : Ev) (eb g : Nat) (iv : Ev) (beg : Int) (pp : Option Addr) : Prop where
  bj : Bj w W B b n mb m1 m2 m3 s pf e eb
  gb : W.heap[g]? = some (.cells (wkA iv beg pp) 119 (0, 0))
section
variable {w W W1 : World} {B b n mb m1 m2 m3 eb g : Nat} {s : Be} {pf : Int → Option Nat} {e iv : Ev} {beg : Int} {pp : Option Addr}
theorem Wj.step (h : Wj w W B b n mb m1 m2 m3 s pf e eb g iv beg pp) (hb : Below W.heap.size W W1) : Wj w W1 B b n mb m1 m2 m3 s pf e eb g iv beg pp := ⟨h.bj.step hb, blk_below h.gb hb⟩
theorem Wj.drew (h : Wj w W B b n mb m1 m2 m3 s pf e eb g iv beg pp) : Wj w W.drew B b n mb m1 m2 m3 s pf e eb g iv beg pp := ⟨h.bj.drew, h.gb⟩
theorem Wj.drewN (h : Wj w W B b n mb m1 m2 m3 s pf e eb g iv beg pp) (q : Nat) : Wj w (W.drewN q) B b n mb m1 m2 m3 s pf e eb g iv beg pp := ⟨h.bj.drewN q, h.gb⟩
theorem Wj.cells (h : Wj w W B b n mb m1 m2 m3 s pf e eb g iv beg pp) : (∀ i, W.cell? ⟨b, i, none⟩ = (beA s.nw mb m3)[i]?) ∧ (∀ i, W.cell? ⟨eb, i, none⟩ = (evA e)[i]?) ∧ (∀ i, W.cell? ⟨g, i, none⟩ = (wkA iv beg pp)[i]?) := ⟨h.bj.cells.1, h.bj.cells.2, fun i => blk_cell h.gb i⟩
theorem Wj.model {n' : Nat} {m' : Md} (h : Wj w W B b n mb m1 m2 m3 s pf e eb g iv beg pp) (hm : MdIs W1 B mb n' m' m1 m2) (hn : n ≤ n') (hf : Fr W W1 (mdS mb m1 m2)) : Wj w W1 B b n' mb m1 m2 m3 { s with m := m' } pf e eb g iv beg pp := by
  refine ⟨h.bj.model hm hn hf, hf.blk h.gb ?_⟩
  rintro (q | q | q)
  · exact types_ne h.gb h.bj.be.md.blk (by decide) q
  · obtain ⟨z, _, hz⟩ := h.bj.be.md.mf; obtain ⟨_, _, hq⟩ := hz.block; exact map_ne h.gb hq q
  · obtain ⟨z, _, hz⟩ := h.bj.be.md.ml; obtain ⟨_, _, hq⟩ := hz.block; exact map_ne h.gb hq q
end
/-- What a bench's function leaves. -/
def BePost (w : World) (B b n mb m1 m2 m3 : Nat) (p : Be × Int) (r : Ending) (w' : World) : Prop := r = .returned (.int .i64 p.2) ∧ (∃ pf, BeIs w' B b (n + 4) p.1 mb m1 m2 m3 pf) ∧ Below B w w'
theorem BePost.of {w W : World} {B b n mb m1 m2 m3 : Nat} {p q : Be × Int} (h : p = q) {v : Int} (hv : v = q.2) {pf : Int → Option Nat} (hm : BeIs W B b (n + 4) q.1 mb m1 m2 m3 pf) (hf : Below B w W) : BePost w B b n mb m1 m2 m3 p (.returned (.int .i64 v)) W := by
  subst h
  subst hv
  exact ⟨rfl, ⟨pf, hm⟩, hf⟩
set_option maxHeartbeats 4000000 in
set_option maxRecDepth 100000 in
theorem judge_new_no (n : Int) (h : n < 1 ∨ 64 < n) (w : World) : Calls Try.prog 26 #[.int .i64 n] w fun r w' => r = .returned (.tuple #[.pointer none, .int .i64 1]) ∧ w' = w := by
  by_cases h1 : n < 1
  · have g1 : decide (n < 1) = true := decide_eq_true h1
    clear h h1
    go_enter Try.func26, Try.ntmps26
    go_wp2
    go_ret2
    exact ⟨rfl, rfl⟩
  · have g1 : decide (n < 1) = false := decide_eq_false h1
    have g2 : decide (n > 64) = true := decide_eq_true (by omega)
    clear h h1
    go_enter Try.func26, Try.ntmps26
    go_wp2
    go_ret2
    exact ⟨rfl, rfl⟩
set_option maxHeartbeats 4000000 in
set_option maxRecDepth 100000 in
theorem judge_new (n : Int) (h : ¬ (n < 1 ∨ 64 < n)) (w : World) : Calls Try.prog 26 #[.int .i64 n] w fun r w' => ∃ b mb m1 m2 m3, r = .returned (.tuple #[pA b, .int .i64 0]) ∧ BeIs w' w.heap.size b 0 (be0 n) mb m1 m2 m3 (fun _ => none) ∧ Below w.heap.size w w' := by
  have hmm := @run_makeMap Try.prog
  have hu0 := Try.underlying61
  have g1 : decide (n < 1) = false := decide_eq_false (by omega)
  have g2 : decide (n > 64) = false := decide_eq_false (by omega)
  have CM := Aside0.mk (model_new w)
  clear h
  go_enter Try.func26, Try.ntmps26
  go_wp2_with (go_at_call 40; (with_reducible refine CM.out.mono ?_); rintro r w2 ⟨rfl, hm, hb⟩; have HM := Aside0.mk (And.intro hm hb); have hz := (And.intro hm hb).2.size; clear hm hb)
  go_ret2
  have hm := HM.out.1
  have hb := HM.out.2
  have hl1 := hm.lt1
  have hl2 := hm.lt2
  have q3 := (MapIs.made (c := Value.int .i64) w2 Try.prog 3).move (w' := (w2.alloc (.map #[] 0)).alloc (.cells (beA n (w.heap.size + 1 + 1) w2.heap.size) 61)) (by rw [Below.heap_alloc _ _ _ (by simp)])
  have qb := blk_new (w2.alloc (.map #[] 0)) (.cells (beA n (w.heap.size + 1 + 1) w2.heap.size) 61)
  rw [show (w2.alloc (.map #[] 0)).heap.size = w2.heap.size + 1 by simp] at qb
  have hpn : pV (fun _ => none) = (fun _ => none : Int → Option Value) := rfl
  exact ⟨_, _, _, _, _, rfl, ⟨qb, (hm.alloc _).alloc _, ⟨[], List.nodup_nil, Nat.le_refl _, fun x => by simp, by rw [hpn]; exact q3⟩, fun x => .inl ⟨rfl, rfl⟩, fun x y g hx => (by cases hx), by omega, by omega, by omega, by omega⟩, below_alloc (below_alloc hb _) _⟩
set_option maxHeartbeats 4000000 in
set_option maxRecDepth 100000 in
theorem within_no (d t f g : Int) (h : decide (t ≤ wrap64 (d - f)) = false) (w : World) : Calls Try.prog 95 #[.int .i64 d, .int .i64 t, .int .i64 f, .int .i64 g] w fun r w' => r = .returned (.bool (withinB d t f g)) ∧ w' = w := by
  have HW := Aside0.mk (show withinB d t f g = (false && decide (wrap64 (d - g) ≤ t)) by unfold withinB; rw [h])
  go_enter Try.func95, Try.ntmps95
  go_wp2
  go_ret
  exact ⟨by rw [HW.out]; rfl, rfl⟩
set_option maxHeartbeats 4000000 in
set_option maxRecDepth 100000 in
theorem within_yes (d t f g : Int) (h : decide (t ≤ wrap64 (d - f)) = true) (w : World) : Calls Try.prog 95 #[.int .i64 d, .int .i64 t, .int .i64 f, .int .i64 g] w fun r w' => r = .returned (.bool (withinB d t f g)) ∧ w' = w := by
  have HW := Aside0.mk (show withinB d t f g = (true && decide (wrap64 (d - g) ≤ t)) by unfold withinB; rw [h])
  go_enter Try.func95, Try.ntmps95
  go_wp2
  go_ret
  exact ⟨by rw [HW.out]; rfl, rfl⟩
theorem within_any (d t f g : Int) (w : World) : Calls Try.prog 95 #[.int .i64 d, .int .i64 t, .int .i64 f, .int .i64 g] w fun r w' => r = .returned (.bool (withinB d t f g)) ∧ w' = w := by
  cases h : decide (t ≤ wrap64 (d - f)) with
  | false => exact within_no d t f g h w
  | true => exact within_yes d t f g h w
set_option maxHeartbeats 4000000 in
set_option maxRecDepth 100000 in
theorem answers_none {w : World} {g : Nat} (iv : Ev) (beg : Int) (e : Ev) (hg : w.heap[g]? = some (.cells (wkA iv beg none) 119 (0, 0)))  :
    Calls Try.prog 67 #[pA g, .agg (evA e)] w fun r w' => r = .returned (.bool false) ∧ Below w.heap.size w w' := by
  have hu0 := Try.underlying119
  have hu1 := Try.underlying34
  have hu2 := Try.underlying54
  have hcg := fun i => blk_cell hg i
  have hlg := blk_lt hg
  clear hg
  go_enter Try.func67, Try.ntmps67
  go_wp2
  go_quiet (fail)
  go_wp2
  go_ret
  exact ⟨rfl, by repeat (first | exact Below.refl _ _ | apply below_alloc | apply pw_below_drewN)⟩
set_option maxHeartbeats 4000000 in
set_option maxRecDepth 100000 in
theorem answers_handle {w : World} {g q : Nat} (iv ev : Ev) (beg : Int) (e : Ev) (hg : w.heap[g]? = some (.cells (wkA iv beg (some ⟨q, 0, none⟩)) 119 (0, 0))) (hq : w.heap[q]? = some (.cells (evA ev) 54 (0, 0))) (h1 : (ev.nn == e.nn && (ev.ng == e.ng)) = false) :
    Calls Try.prog 67 #[pA g, .agg (evA e)] w fun r w' => r = .returned (.bool false) ∧ Below w.heap.size w w' := by
  have hu0 := Try.underlying119
  have hu1 := Try.underlying34
  have hu2 := Try.underlying54
  have hcg := fun i => blk_cell hg i
  have hlg := blk_lt hg
  have hcq := fun i => blk_cell hq i
  have hlq := blk_lt hq
  clear hg hq
  go_enter Try.func67, Try.ntmps67
  go_wp2
  go_quiet (fail)
  go_wp2
  go_ret
  exact ⟨rfl, by repeat (first | exact Below.refl _ _ | apply below_alloc | apply pw_below_drewN)⟩
set_option maxHeartbeats 4000000 in
set_option maxRecDepth 100000 in
theorem answers_yes {w : World} {g q : Nat} (iv ev : Ev) (beg : Int) (e : Ev) (hg : w.heap[g]? = some (.cells (wkA iv beg (some ⟨q, 0, none⟩)) 119 (0, 0))) (hq : w.heap[q]? = some (.cells (evA ev) 54 (0, 0))) (h1 : (ev.nn == e.nn && (ev.ng == e.ng)) = true) (h2 : (ev.y == e.y) = false) :
    Calls Try.prog 67 #[pA g, .agg (evA e)] w fun r w' => r = .returned (.bool false) ∧ Below w.heap.size w w' := by
  have hu0 := Try.underlying119
  have hu1 := Try.underlying34
  have hu2 := Try.underlying54
  have hcg := fun i => blk_cell hg i
  have hlg := blk_lt hg
  have hcq := fun i => blk_cell hq i
  have hlq := blk_lt hq
  clear hg hq
  go_enter Try.func67, Try.ntmps67
  go_wp2
  go_quiet (fail)
  go_wp2
  go_ret
  exact ⟨rfl, by repeat (first | exact Below.refl _ _ | apply below_alloc | apply pw_below_drewN)⟩
set_option maxHeartbeats 4000000 in
set_option maxRecDepth 100000 in
theorem answers_err {w : World} {g q : Nat} (iv ev : Ev) (beg : Int) (e : Ev) (hg : w.heap[g]? = some (.cells (wkA iv beg (some ⟨q, 0, none⟩)) 119 (0, 0))) (hq : w.heap[q]? = some (.cells (evA ev) 54 (0, 0))) (h1 : (ev.nn == e.nn && (ev.ng == e.ng)) = true) (h2 : (ev.y == e.y) = true) :
    Calls Try.prog 67 #[pA g, .agg (evA e)] w fun r w' => r = .returned (.bool (ev.er == e.er)) ∧ Below w.heap.size w w' := by
  have hu0 := Try.underlying119
  have hu1 := Try.underlying34
  have hu2 := Try.underlying54
  have hcg := fun i => blk_cell hg i
  have hlg := blk_lt hg
  have hcq := fun i => blk_cell hq i
  have hlq := blk_lt hq
  clear hg hq
  go_enter Try.func67, Try.ntmps67
  go_wp2
  go_quiet (fail)
  go_wp2
  go_ret
  exact ⟨rfl, by repeat (first | exact Below.refl _ _ | apply below_alloc | apply pw_below_drewN)⟩
theorem answers_any {w : World} {B g : Nat} {k : Wk} (h : WkIs w B g k) (e : Ev) : Calls Try.prog 67 #[pA g, .agg (evA e)] w fun r w' => r = .returned (.bool (answersB k e)) ∧ Below w.heap.size w w' := by
  obtain ⟨_, iv, pp, hg, _, _, _, _, ⟨rfl, hp⟩ | ⟨q, ev, rfl, _, hq, hp⟩⟩ := h
  · have hr : answersB k e = false := by unfold answersB; rw [hp]
    rw [hr]
    exact answers_none iv k.beg e hg
  · have hr : answersB k e = ((ev.nn == e.nn && (ev.ng == e.ng)) && ((ev.y == e.y) && (ev.er == e.er))) := by unfold answersB; rw [hp]; unfold ptOf; simp [Bool.and_assoc]
    rw [hr]
    cases h1 : (ev.nn == e.nn && (ev.ng == e.ng)) with
    | false => exact answers_handle iv ev k.beg e hg hq h1
    | true =>
      cases h2 : (ev.y == e.y) with
      | false => exact answers_yes iv ev k.beg e hg hq h1 h2
      | true => exact answers_err iv ev k.beg e hg hq h1 h2
end Go.Proofs.Ythniclbmpeklmaa.Ju
end
