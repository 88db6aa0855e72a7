/- What is proved: an event without some of its fields, as the program tells it, for each set of fields that there is; no conditions. -/
import Derived.Test.YthniclbmpeklmaaEvE
namespace Go.Proofs.Ythniclbmpeklmaa.Ev
open Go.RowKit Go.Proofs.YthniclbmpeklmaaW.PrintWords Go.Proofs.YthniclbmpeklmaaW.PrintLast Go.Proofs.YthniclbmpeklmaaW.PrintMore
set_option linter.unusedVariables false
set_option linter.unusedSimpArgs false

set_option maxHeartbeats 4000000 in
set_option maxRecDepth 100000 in
theorem bare_0 (k wk op hn hg nn ng t a u : Int) (y : Bool) (er : Int) (w : World) :
    Calls Try.prog 94 #[.agg (evC k wk op hn hg nn ng t a u y er), .int .i64 0] w fun e w' => e = .returned (.agg (evC k wk op hn hg nn ng t a u y er)) ∧ Below w.heap.size w w' := by
  have hu := Try.underlying54
  have hu2 := Try.underlying34
  have b1 : bits BinOp.and IntKind.i64 0 1 = 0 := by decide
  have b2 : bits BinOp.and IntKind.i64 0 2 = 0 := by decide
  have b4 : bits BinOp.and IntKind.i64 0 4 = 0 := by decide
  have b8 : bits BinOp.and IntKind.i64 0 8 = 0 := by decide
  have b16 : bits BinOp.and IntKind.i64 0 16 = 0 := by decide
  have b32 : bits BinOp.and IntKind.i64 0 32 = 0 := by decide
  have b64 : bits BinOp.and IntKind.i64 0 64 = 0 := by decide
  have HB := Aside0.mk (Below.refl w.heap.size w)
  cases y
  all_goals
    go_enter Try.func94, Try.ntmps94
    go_wp2
    go_rounds 4
    refine bodyPost_ret (v := .agg (evC k wk op hn hg nn ng t a u _ er)) (by simp [results, Try.results94, go_sem]) rfl ⟨rfl, ?_⟩
    repeat (first | exact HB.out | apply below_alloc | apply pw_below_drewN | refine Below.setCell ?_ (by simp) _)

set_option maxHeartbeats 4000000 in
set_option maxRecDepth 100000 in
theorem bare_1 (k wk op hn hg nn ng t a u : Int) (y : Bool) (er : Int) (w : World) :
    Calls Try.prog 94 #[.agg (evC k wk op hn hg nn ng t a u y er), .int .i64 1] w fun e w' => e = .returned (.agg (evC k wk op 0 0 nn ng t a u y er)) ∧ Below w.heap.size w w' := by
  have hu := Try.underlying54
  have hu2 := Try.underlying34
  have b1 : bits BinOp.and IntKind.i64 1 1 = 1 := by decide
  have b2 : bits BinOp.and IntKind.i64 1 2 = 0 := by decide
  have b4 : bits BinOp.and IntKind.i64 1 4 = 0 := by decide
  have b8 : bits BinOp.and IntKind.i64 1 8 = 0 := by decide
  have b16 : bits BinOp.and IntKind.i64 1 16 = 0 := by decide
  have b32 : bits BinOp.and IntKind.i64 1 32 = 0 := by decide
  have b64 : bits BinOp.and IntKind.i64 1 64 = 0 := by decide
  have HB := Aside0.mk (Below.refl w.heap.size w)
  cases y
  all_goals
    go_enter Try.func94, Try.ntmps94
    go_wp2
    go_rounds 4
    refine bodyPost_ret (v := .agg (evC k wk op 0 0 nn ng t a u _ er)) (by simp [results, Try.results94, go_sem]) rfl ⟨rfl, ?_⟩
    repeat (first | exact HB.out | apply below_alloc | apply pw_below_drewN | refine Below.setCell ?_ (by simp) _)

set_option maxHeartbeats 4000000 in
set_option maxRecDepth 100000 in
theorem bare_4 (k wk op hn hg nn ng t a u : Int) (y : Bool) (er : Int) (w : World) :
    Calls Try.prog 94 #[.agg (evC k wk op hn hg nn ng t a u y er), .int .i64 4] w fun e w' => e = .returned (.agg (evC k wk op hn hg nn ng 0 a u y er)) ∧ Below w.heap.size w w' := by
  have hu := Try.underlying54
  have hu2 := Try.underlying34
  have b1 : bits BinOp.and IntKind.i64 4 1 = 0 := by decide
  have b2 : bits BinOp.and IntKind.i64 4 2 = 0 := by decide
  have b4 : bits BinOp.and IntKind.i64 4 4 = 4 := by decide
  have b8 : bits BinOp.and IntKind.i64 4 8 = 0 := by decide
  have b16 : bits BinOp.and IntKind.i64 4 16 = 0 := by decide
  have b32 : bits BinOp.and IntKind.i64 4 32 = 0 := by decide
  have b64 : bits BinOp.and IntKind.i64 4 64 = 0 := by decide
  have HB := Aside0.mk (Below.refl w.heap.size w)
  cases y
  all_goals
    go_enter Try.func94, Try.ntmps94
    go_wp2
    go_rounds 4
    refine bodyPost_ret (v := .agg (evC k wk op hn hg nn ng 0 a u _ er)) (by simp [results, Try.results94, go_sem]) rfl ⟨rfl, ?_⟩
    repeat (first | exact HB.out | apply below_alloc | apply pw_below_drewN | refine Below.setCell ?_ (by simp) _)

set_option maxHeartbeats 4000000 in
set_option maxRecDepth 100000 in
theorem bare_5 (k wk op hn hg nn ng t a u : Int) (y : Bool) (er : Int) (w : World) :
    Calls Try.prog 94 #[.agg (evC k wk op hn hg nn ng t a u y er), .int .i64 5] w fun e w' => e = .returned (.agg (evC k wk op 0 0 nn ng 0 a u y er)) ∧ Below w.heap.size w w' := by
  have hu := Try.underlying54
  have hu2 := Try.underlying34
  have b1 : bits BinOp.and IntKind.i64 5 1 = 1 := by decide
  have b2 : bits BinOp.and IntKind.i64 5 2 = 0 := by decide
  have b4 : bits BinOp.and IntKind.i64 5 4 = 4 := by decide
  have b8 : bits BinOp.and IntKind.i64 5 8 = 0 := by decide
  have b16 : bits BinOp.and IntKind.i64 5 16 = 0 := by decide
  have b32 : bits BinOp.and IntKind.i64 5 32 = 0 := by decide
  have b64 : bits BinOp.and IntKind.i64 5 64 = 0 := by decide
  have HB := Aside0.mk (Below.refl w.heap.size w)
  cases y
  all_goals
    go_enter Try.func94, Try.ntmps94
    go_wp2
    go_rounds 4
    refine bodyPost_ret (v := .agg (evC k wk op 0 0 nn ng 0 a u _ er)) (by simp [results, Try.results94, go_sem]) rfl ⟨rfl, ?_⟩
    repeat (first | exact HB.out | apply below_alloc | apply pw_below_drewN | refine Below.setCell ?_ (by simp) _)

set_option maxHeartbeats 4000000 in
set_option maxRecDepth 100000 in
theorem bare_9 (k wk op hn hg nn ng t a u : Int) (y : Bool) (er : Int) (w : World) :
    Calls Try.prog 94 #[.agg (evC k wk op hn hg nn ng t a u y er), .int .i64 9] w fun e w' => e = .returned (.agg (evC k wk op 0 0 nn ng t 0 u y er)) ∧ Below w.heap.size w w' := by
  have hu := Try.underlying54
  have hu2 := Try.underlying34
  have b1 : bits BinOp.and IntKind.i64 9 1 = 1 := by decide
  have b2 : bits BinOp.and IntKind.i64 9 2 = 0 := by decide
  have b4 : bits BinOp.and IntKind.i64 9 4 = 0 := by decide
  have b8 : bits BinOp.and IntKind.i64 9 8 = 8 := by decide
  have b16 : bits BinOp.and IntKind.i64 9 16 = 0 := by decide
  have b32 : bits BinOp.and IntKind.i64 9 32 = 0 := by decide
  have b64 : bits BinOp.and IntKind.i64 9 64 = 0 := by decide
  have HB := Aside0.mk (Below.refl w.heap.size w)
  cases y
  all_goals
    go_enter Try.func94, Try.ntmps94
    go_wp2
    go_rounds 4
    refine bodyPost_ret (v := .agg (evC k wk op 0 0 nn ng t 0 u _ er)) (by simp [results, Try.results94, go_sem]) rfl ⟨rfl, ?_⟩
    repeat (first | exact HB.out | apply below_alloc | apply pw_below_drewN | refine Below.setCell ?_ (by simp) _)

set_option maxHeartbeats 4000000 in
set_option maxRecDepth 100000 in
theorem bare_21 (k wk op hn hg nn ng t a u : Int) (y : Bool) (er : Int) (w : World) :
    Calls Try.prog 94 #[.agg (evC k wk op hn hg nn ng t a u y er), .int .i64 21] w fun e w' => e = .returned (.agg (evC k wk op 0 0 nn ng 0 a 0 y er)) ∧ Below w.heap.size w w' := by
  have hu := Try.underlying54
  have hu2 := Try.underlying34
  have b1 : bits BinOp.and IntKind.i64 21 1 = 1 := by decide
  have b2 : bits BinOp.and IntKind.i64 21 2 = 0 := by decide
  have b4 : bits BinOp.and IntKind.i64 21 4 = 4 := by decide
  have b8 : bits BinOp.and IntKind.i64 21 8 = 0 := by decide
  have b16 : bits BinOp.and IntKind.i64 21 16 = 16 := by decide
  have b32 : bits BinOp.and IntKind.i64 21 32 = 0 := by decide
  have b64 : bits BinOp.and IntKind.i64 21 64 = 0 := by decide
  have HB := Aside0.mk (Below.refl w.heap.size w)
  cases y
  all_goals
    go_enter Try.func94, Try.ntmps94
    go_wp2
    go_rounds 4
    refine bodyPost_ret (v := .agg (evC k wk op 0 0 nn ng 0 a 0 _ er)) (by simp [results, Try.results94, go_sem]) rfl ⟨rfl, ?_⟩
    repeat (first | exact HB.out | apply below_alloc | apply pw_below_drewN | refine Below.setCell ?_ (by simp) _)

set_option maxHeartbeats 4000000 in
set_option maxRecDepth 100000 in
theorem bare_28 (k wk op hn hg nn ng t a u : Int) (y : Bool) (er : Int) (w : World) :
    Calls Try.prog 94 #[.agg (evC k wk op hn hg nn ng t a u y er), .int .i64 28] w fun e w' => e = .returned (.agg (evC k wk op hn hg nn ng 0 0 0 y er)) ∧ Below w.heap.size w w' := by
  have hu := Try.underlying54
  have hu2 := Try.underlying34
  have b1 : bits BinOp.and IntKind.i64 28 1 = 0 := by decide
  have b2 : bits BinOp.and IntKind.i64 28 2 = 0 := by decide
  have b4 : bits BinOp.and IntKind.i64 28 4 = 4 := by decide
  have b8 : bits BinOp.and IntKind.i64 28 8 = 8 := by decide
  have b16 : bits BinOp.and IntKind.i64 28 16 = 16 := by decide
  have b32 : bits BinOp.and IntKind.i64 28 32 = 0 := by decide
  have b64 : bits BinOp.and IntKind.i64 28 64 = 0 := by decide
  have HB := Aside0.mk (Below.refl w.heap.size w)
  cases y
  all_goals
    go_enter Try.func94, Try.ntmps94
    go_wp2
    go_rounds 4
    refine bodyPost_ret (v := .agg (evC k wk op hn hg nn ng 0 0 0 _ er)) (by simp [results, Try.results94, go_sem]) rfl ⟨rfl, ?_⟩
    repeat (first | exact HB.out | apply below_alloc | apply pw_below_drewN | refine Below.setCell ?_ (by simp) _)

set_option maxHeartbeats 4000000 in
set_option maxRecDepth 100000 in
theorem bare_32 (k wk op hn hg nn ng t a u : Int) (y : Bool) (er : Int) (w : World) :
    Calls Try.prog 94 #[.agg (evC k wk op hn hg nn ng t a u y er), .int .i64 32] w fun e w' => e = .returned (.agg (evC k wk op hn hg nn ng t a u false er)) ∧ Below w.heap.size w w' := by
  have hu := Try.underlying54
  have hu2 := Try.underlying34
  have b1 : bits BinOp.and IntKind.i64 32 1 = 0 := by decide
  have b2 : bits BinOp.and IntKind.i64 32 2 = 0 := by decide
  have b4 : bits BinOp.and IntKind.i64 32 4 = 0 := by decide
  have b8 : bits BinOp.and IntKind.i64 32 8 = 0 := by decide
  have b16 : bits BinOp.and IntKind.i64 32 16 = 0 := by decide
  have b32 : bits BinOp.and IntKind.i64 32 32 = 32 := by decide
  have b64 : bits BinOp.and IntKind.i64 32 64 = 0 := by decide
  have HB := Aside0.mk (Below.refl w.heap.size w)
  cases y
  all_goals
    go_enter Try.func94, Try.ntmps94
    go_wp2
    go_rounds 4
    refine bodyPost_ret (v := .agg (evC k wk op hn hg nn ng t a u _ er)) (by simp [results, Try.results94, go_sem]) rfl ⟨rfl, ?_⟩
    repeat (first | exact HB.out | apply below_alloc | apply pw_below_drewN | refine Below.setCell ?_ (by simp) _)

set_option maxHeartbeats 4000000 in
set_option maxRecDepth 100000 in
theorem bare_33 (k wk op hn hg nn ng t a u : Int) (y : Bool) (er : Int) (w : World) :
    Calls Try.prog 94 #[.agg (evC k wk op hn hg nn ng t a u y er), .int .i64 33] w fun e w' => e = .returned (.agg (evC k wk op 0 0 nn ng t a u false er)) ∧ Below w.heap.size w w' := by
  have hu := Try.underlying54
  have hu2 := Try.underlying34
  have b1 : bits BinOp.and IntKind.i64 33 1 = 1 := by decide
  have b2 : bits BinOp.and IntKind.i64 33 2 = 0 := by decide
  have b4 : bits BinOp.and IntKind.i64 33 4 = 0 := by decide
  have b8 : bits BinOp.and IntKind.i64 33 8 = 0 := by decide
  have b16 : bits BinOp.and IntKind.i64 33 16 = 0 := by decide
  have b32 : bits BinOp.and IntKind.i64 33 32 = 32 := by decide
  have b64 : bits BinOp.and IntKind.i64 33 64 = 0 := by decide
  have HB := Aside0.mk (Below.refl w.heap.size w)
  cases y
  all_goals
    go_enter Try.func94, Try.ntmps94
    go_wp2
    go_rounds 4
    refine bodyPost_ret (v := .agg (evC k wk op 0 0 nn ng t a u _ er)) (by simp [results, Try.results94, go_sem]) rfl ⟨rfl, ?_⟩
    repeat (first | exact HB.out | apply below_alloc | apply pw_below_drewN | refine Below.setCell ?_ (by simp) _)

set_option maxHeartbeats 4000000 in
set_option maxRecDepth 100000 in
theorem bare_64 (k wk op hn hg nn ng t a u : Int) (y : Bool) (er : Int) (w : World) :
    Calls Try.prog 94 #[.agg (evC k wk op hn hg nn ng t a u y er), .int .i64 64] w fun e w' => e = .returned (.agg (evC k wk op hn hg nn ng t a u y 0)) ∧ Below w.heap.size w w' := by
  have hu := Try.underlying54
  have hu2 := Try.underlying34
  have b1 : bits BinOp.and IntKind.i64 64 1 = 0 := by decide
  have b2 : bits BinOp.and IntKind.i64 64 2 = 0 := by decide
  have b4 : bits BinOp.and IntKind.i64 64 4 = 0 := by decide
  have b8 : bits BinOp.and IntKind.i64 64 8 = 0 := by decide
  have b16 : bits BinOp.and IntKind.i64 64 16 = 0 := by decide
  have b32 : bits BinOp.and IntKind.i64 64 32 = 0 := by decide
  have b64 : bits BinOp.and IntKind.i64 64 64 = 64 := by decide
  have HB := Aside0.mk (Below.refl w.heap.size w)
  cases y
  all_goals
    go_enter Try.func94, Try.ntmps94
    go_wp2
    go_rounds 4
    refine bodyPost_ret (v := .agg (evC k wk op hn hg nn ng t a u _ 0)) (by simp [results, Try.results94, go_sem]) rfl ⟨rfl, ?_⟩
    repeat (first | exact HB.out | apply below_alloc | apply pw_below_drewN | refine Below.setCell ?_ (by simp) _)

set_option maxHeartbeats 4000000 in
set_option maxRecDepth 100000 in
theorem bare_65 (k wk op hn hg nn ng t a u : Int) (y : Bool) (er : Int) (w : World) :
    Calls Try.prog 94 #[.agg (evC k wk op hn hg nn ng t a u y er), .int .i64 65] w fun e w' => e = .returned (.agg (evC k wk op 0 0 nn ng t a u y 0)) ∧ Below w.heap.size w w' := by
  have hu := Try.underlying54
  have hu2 := Try.underlying34
  have b1 : bits BinOp.and IntKind.i64 65 1 = 1 := by decide
  have b2 : bits BinOp.and IntKind.i64 65 2 = 0 := by decide
  have b4 : bits BinOp.and IntKind.i64 65 4 = 0 := by decide
  have b8 : bits BinOp.and IntKind.i64 65 8 = 0 := by decide
  have b16 : bits BinOp.and IntKind.i64 65 16 = 0 := by decide
  have b32 : bits BinOp.and IntKind.i64 65 32 = 0 := by decide
  have b64 : bits BinOp.and IntKind.i64 65 64 = 64 := by decide
  have HB := Aside0.mk (Below.refl w.heap.size w)
  cases y
  all_goals
    go_enter Try.func94, Try.ntmps94
    go_wp2
    go_rounds 4
    refine bodyPost_ret (v := .agg (evC k wk op 0 0 nn ng t a u _ 0)) (by simp [results, Try.results94, go_sem]) rfl ⟨rfl, ?_⟩
    repeat (first | exact HB.out | apply below_alloc | apply pw_below_drewN | refine Below.setCell ?_ (by simp) _)

set_option maxHeartbeats 4000000 in
set_option maxRecDepth 100000 in
theorem bare_66 (k wk op hn hg nn ng t a u : Int) (y : Bool) (er : Int) (w : World) :
    Calls Try.prog 94 #[.agg (evC k wk op hn hg nn ng t a u y er), .int .i64 66] w fun e w' => e = .returned (.agg (evC k wk op hn hg 0 0 t a u y 0)) ∧ Below w.heap.size w w' := by
  have hu := Try.underlying54
  have hu2 := Try.underlying34
  have b1 : bits BinOp.and IntKind.i64 66 1 = 0 := by decide
  have b2 : bits BinOp.and IntKind.i64 66 2 = 2 := by decide
  have b4 : bits BinOp.and IntKind.i64 66 4 = 0 := by decide
  have b8 : bits BinOp.and IntKind.i64 66 8 = 0 := by decide
  have b16 : bits BinOp.and IntKind.i64 66 16 = 0 := by decide
  have b32 : bits BinOp.and IntKind.i64 66 32 = 0 := by decide
  have b64 : bits BinOp.and IntKind.i64 66 64 = 64 := by decide
  have HB := Aside0.mk (Below.refl w.heap.size w)
  cases y
  all_goals
    go_enter Try.func94, Try.ntmps94
    go_wp2
    go_rounds 4
    refine bodyPost_ret (v := .agg (evC k wk op hn hg 0 0 t a u _ 0)) (by simp [results, Try.results94, go_sem]) rfl ⟨rfl, ?_⟩
    repeat (first | exact HB.out | apply below_alloc | apply pw_below_drewN | refine Below.setCell ?_ (by simp) _)

set_option maxHeartbeats 4000000 in
set_option maxRecDepth 100000 in
theorem bare_70 (k wk op hn hg nn ng t a u : Int) (y : Bool) (er : Int) (w : World) :
    Calls Try.prog 94 #[.agg (evC k wk op hn hg nn ng t a u y er), .int .i64 70] w fun e w' => e = .returned (.agg (evC k wk op hn hg 0 0 0 a u y 0)) ∧ Below w.heap.size w w' := by
  have hu := Try.underlying54
  have hu2 := Try.underlying34
  have b1 : bits BinOp.and IntKind.i64 70 1 = 0 := by decide
  have b2 : bits BinOp.and IntKind.i64 70 2 = 2 := by decide
  have b4 : bits BinOp.and IntKind.i64 70 4 = 4 := by decide
  have b8 : bits BinOp.and IntKind.i64 70 8 = 0 := by decide
  have b16 : bits BinOp.and IntKind.i64 70 16 = 0 := by decide
  have b32 : bits BinOp.and IntKind.i64 70 32 = 0 := by decide
  have b64 : bits BinOp.and IntKind.i64 70 64 = 64 := by decide
  have HB := Aside0.mk (Below.refl w.heap.size w)
  cases y
  all_goals
    go_enter Try.func94, Try.ntmps94
    go_wp2
    go_rounds 4
    refine bodyPost_ret (v := .agg (evC k wk op hn hg 0 0 0 a u _ 0)) (by simp [results, Try.results94, go_sem]) rfl ⟨rfl, ?_⟩
    repeat (first | exact HB.out | apply below_alloc | apply pw_below_drewN | refine Below.setCell ?_ (by simp) _)

set_option maxHeartbeats 4000000 in
set_option maxRecDepth 100000 in
theorem bare_71 (k wk op hn hg nn ng t a u : Int) (y : Bool) (er : Int) (w : World) :
    Calls Try.prog 94 #[.agg (evC k wk op hn hg nn ng t a u y er), .int .i64 71] w fun e w' => e = .returned (.agg (evC k wk op 0 0 0 0 0 a u y 0)) ∧ Below w.heap.size w w' := by
  have hu := Try.underlying54
  have hu2 := Try.underlying34
  have b1 : bits BinOp.and IntKind.i64 71 1 = 1 := by decide
  have b2 : bits BinOp.and IntKind.i64 71 2 = 2 := by decide
  have b4 : bits BinOp.and IntKind.i64 71 4 = 4 := by decide
  have b8 : bits BinOp.and IntKind.i64 71 8 = 0 := by decide
  have b16 : bits BinOp.and IntKind.i64 71 16 = 0 := by decide
  have b32 : bits BinOp.and IntKind.i64 71 32 = 0 := by decide
  have b64 : bits BinOp.and IntKind.i64 71 64 = 64 := by decide
  have HB := Aside0.mk (Below.refl w.heap.size w)
  cases y
  all_goals
    go_enter Try.func94, Try.ntmps94
    go_wp2
    go_rounds 4
    refine bodyPost_ret (v := .agg (evC k wk op 0 0 0 0 0 a u _ 0)) (by simp [results, Try.results94, go_sem]) rfl ⟨rfl, ?_⟩
    repeat (first | exact HB.out | apply below_alloc | apply pw_below_drewN | refine Below.setCell ?_ (by simp) _)

end Go.Proofs.Ythniclbmpeklmaa.Ev

