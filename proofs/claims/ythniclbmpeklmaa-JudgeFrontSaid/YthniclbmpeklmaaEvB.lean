/- What is proved: which fields an event has, as the reference tells it field by field; no conditions. -/
import Derived.Test.YthniclbmpeklmaaEvA
namespace Go.Proofs.Ythniclbmpeklmaa.Ev
open Go.RowKit Go.Proofs.YthniclbmpeklmaaW.PrintWords Go.Proofs.YthniclbmpeklmaaW.PrintLast Go.Proofs.YthniclbmpeklmaaW.PrintMore
set_option linter.unusedVariables false
set_option linter.unusedSimpArgs false
def in3 (x y z n : Int) : Bool := x == n || (y == n || z == n)
def made (op : Int) : Bool := op == 1 || op == 3
def hasN (k op er : Int) : Bool := (k == 3 || k == 5) && made op && er == 0
def hasT (k op er : Int) : Bool := k == 1 || k == 4 || k == 2 && made op || k == 3 && made op && er == 0 || k == 5 && (op == 6 || op == 7)
def hasA (k op : Int) : Bool := k == 2 && (op == 1 || op == 4)
def hasU (k op : Int) : Bool := k == 4 || k == 2 && op == 1
def hasY (k op : Int) : Bool := (k == 3 || k == 5) && op == 2
def hasE (k op : Int) : Bool := (k == 3 || k == 5) && in3 1 3 4 op
def hasH (k op : Int) : Bool := k == 4 || ((k == 2 && in3 2 3 4 op) || (k == 3 && in3 2 3 4 op))
theorem in_3 (n x y z : Int) (b : Nat) (w : World) (h0 : w.cell? ⟨b, 0, none⟩ = some (.int .i64 x)) (h1 : w.cell? ⟨b, 1, none⟩ = some (.int .i64 y)) (h2 : w.cell? ⟨b, 2, none⟩ = some (.int .i64 z)) :
    Calls Try.prog 105 #[.int .i64 n, .slice (some ⟨b, 0, none⟩) 3 3] w fun e w' => e = .returned (.bool (in3 x y z n)) ∧ w' = w := in_any n x y z b w h0 h1 h2

set_option maxHeartbeats 4000000 in
set_option maxRecDepth 100000 in
theorem has_h (k wk op hn hg nn ng t a u : Int) (y : Bool) (er : Int) (w : World) :
    Calls Try.prog 91 #[.agg (evC k wk op hn hg nn ng t a u y er), .int .u8 104] w fun e w' => e = .returned (.bool (hasH k op)) ∧ Below w.heap.size w w' := by
  have hu := Try.underlying50
  have HB := Aside0.mk (Below.refl w.heap.size w)
  go_enter Try.func91, Try.ntmps91
  go_wp2
  go_quiet (fail)
  go_wp2_with (first | (go_at_call 105; (with_reducible refine (in_3 _ 2 3 4 _ _ ?c0 ?c1 ?c2).mono ?_); (case c0 => go_simp); (case c1 => go_simp); (case c2 => go_simp); rintro e w1 ⟨rfl, rfl⟩))
  all_goals
    go_ret
    exact ⟨by first | (simp [hasH, made, *]; done) | (simp_all [hasH, made, in3]; done) | (simp [hasH, made, *]; rw [Bool.eq_iff_iff]; simp [*]; done), by repeat (first | exact HB.out | apply below_alloc | apply pw_below_drewN)⟩

set_option maxHeartbeats 4000000 in
set_option maxRecDepth 100000 in
theorem has_n (k wk op hn hg nn ng t a u : Int) (y : Bool) (er : Int) (w : World) :
    Calls Try.prog 91 #[.agg (evC k wk op hn hg nn ng t a u y er), .int .u8 110] w fun e w' => e = .returned (.bool (hasN k op er)) ∧ Below w.heap.size w w' := by
  have hu := Try.underlying50
  have HB := Aside0.mk (Below.refl w.heap.size w)
  go_enter Try.func91, Try.ntmps91
  go_wp2
  go_quiet (fail)
  go_wp2_with (first | (go_at_call 105; (with_reducible refine (in_3 _ 1 3 4 _ _ ?c0 ?c1 ?c2).mono ?_); (case c0 => go_simp); (case c1 => go_simp); (case c2 => go_simp); rintro e w1 ⟨rfl, rfl⟩))
  all_goals
    go_ret
    exact ⟨by first | (simp [hasN, made, *]; done) | (simp_all [hasN, made, in3]; done) | (simp [hasN, made, *]; rw [Bool.eq_iff_iff]; simp [*]; done), by repeat (first | exact HB.out | apply below_alloc | apply pw_below_drewN)⟩

set_option maxHeartbeats 4000000 in
set_option maxRecDepth 100000 in
theorem has_t (k wk op hn hg nn ng t a u : Int) (y : Bool) (er : Int) (w : World) :
    Calls Try.prog 91 #[.agg (evC k wk op hn hg nn ng t a u y er), .int .u8 116] w fun e w' => e = .returned (.bool (hasT k op er)) ∧ Below w.heap.size w w' := by
  have hu := Try.underlying50
  have HB := Aside0.mk (Below.refl w.heap.size w)
  go_enter Try.func91, Try.ntmps91
  go_wp2
  go_quiet (fail)
  go_wp2_with (first | (go_at_call 105; (with_reducible refine (in_3 _ 1 3 4 _ _ ?c0 ?c1 ?c2).mono ?_); (case c0 => go_simp); (case c1 => go_simp); (case c2 => go_simp); rintro e w1 ⟨rfl, rfl⟩))
  all_goals
    go_ret
    exact ⟨by first | (simp [hasT, made, *]; done) | (simp_all [hasT, made, in3]; done) | (simp [hasT, made, *]; rw [Bool.eq_iff_iff]; simp [*]; done), by repeat (first | exact HB.out | apply below_alloc | apply pw_below_drewN)⟩

set_option maxHeartbeats 4000000 in
set_option maxRecDepth 100000 in
theorem has_a (k wk op hn hg nn ng t a u : Int) (y : Bool) (er : Int) (w : World) :
    Calls Try.prog 91 #[.agg (evC k wk op hn hg nn ng t a u y er), .int .u8 97] w fun e w' => e = .returned (.bool (hasA k op)) ∧ Below w.heap.size w w' := by
  have hu := Try.underlying50
  have HB := Aside0.mk (Below.refl w.heap.size w)
  go_enter Try.func91, Try.ntmps91
  go_wp2
  go_quiet (fail)
  go_wp2_with (first | (go_at_call 105; (with_reducible refine (in_3 _ 1 3 4 _ _ ?c0 ?c1 ?c2).mono ?_); (case c0 => go_simp); (case c1 => go_simp); (case c2 => go_simp); rintro e w1 ⟨rfl, rfl⟩))
  all_goals
    go_ret
    exact ⟨by first | (simp [hasA, made, *]; done) | (simp_all [hasA, made, in3]; done) | (simp [hasA, made, *]; rw [Bool.eq_iff_iff]; simp [*]; done), by repeat (first | exact HB.out | apply below_alloc | apply pw_below_drewN)⟩

set_option maxHeartbeats 4000000 in
set_option maxRecDepth 100000 in
theorem has_u (k wk op hn hg nn ng t a u : Int) (y : Bool) (er : Int) (w : World) :
    Calls Try.prog 91 #[.agg (evC k wk op hn hg nn ng t a u y er), .int .u8 117] w fun e w' => e = .returned (.bool (hasU k op)) ∧ Below w.heap.size w w' := by
  have hu := Try.underlying50
  have HB := Aside0.mk (Below.refl w.heap.size w)
  go_enter Try.func91, Try.ntmps91
  go_wp2
  go_quiet (fail)
  go_wp2_with (first | (go_at_call 105; (with_reducible refine (in_3 _ 1 3 4 _ _ ?c0 ?c1 ?c2).mono ?_); (case c0 => go_simp); (case c1 => go_simp); (case c2 => go_simp); rintro e w1 ⟨rfl, rfl⟩))
  all_goals
    go_ret
    exact ⟨by first | (simp [hasU, made, *]; done) | (simp_all [hasU, made, in3]; done) | (simp [hasU, made, *]; rw [Bool.eq_iff_iff]; simp [*]; done), by repeat (first | exact HB.out | apply below_alloc | apply pw_below_drewN)⟩

set_option maxHeartbeats 4000000 in
set_option maxRecDepth 100000 in
theorem has_y (k wk op hn hg nn ng t a u : Int) (y : Bool) (er : Int) (w : World) :
    Calls Try.prog 91 #[.agg (evC k wk op hn hg nn ng t a u y er), .int .u8 121] w fun e w' => e = .returned (.bool (hasY k op)) ∧ Below w.heap.size w w' := by
  have hu := Try.underlying50
  have HB := Aside0.mk (Below.refl w.heap.size w)
  go_enter Try.func91, Try.ntmps91
  go_wp2
  go_quiet (fail)
  go_wp2_with (first | (go_at_call 105; (with_reducible refine (in_3 _ 1 3 4 _ _ ?c0 ?c1 ?c2).mono ?_); (case c0 => go_simp); (case c1 => go_simp); (case c2 => go_simp); rintro e w1 ⟨rfl, rfl⟩))
  all_goals
    go_ret
    exact ⟨by first | (simp [hasY, made, *]; done) | (simp_all [hasY, made, in3]; done) | (simp [hasY, made, *]; rw [Bool.eq_iff_iff]; simp [*]; done), by repeat (first | exact HB.out | apply below_alloc | apply pw_below_drewN)⟩

set_option maxHeartbeats 4000000 in
set_option maxRecDepth 100000 in
theorem has_e (k wk op hn hg nn ng t a u : Int) (y : Bool) (er : Int) (w : World) :
    Calls Try.prog 91 #[.agg (evC k wk op hn hg nn ng t a u y er), .int .u8 101] w fun e w' => e = .returned (.bool (hasE k op)) ∧ Below w.heap.size w w' := by
  have hu := Try.underlying50
  have HB := Aside0.mk (Below.refl w.heap.size w)
  go_enter Try.func91, Try.ntmps91
  go_wp2
  go_quiet (fail)
  go_wp2_with (first | (go_at_call 105; (with_reducible refine (in_3 _ 1 3 4 _ _ ?c0 ?c1 ?c2).mono ?_); (case c0 => go_simp); (case c1 => go_simp); (case c2 => go_simp); rintro e w1 ⟨rfl, rfl⟩))
  all_goals
    go_ret
    exact ⟨by first | (simp [hasE, made, *]; done) | (simp_all [hasE, made, in3]; done) | (simp [hasE, made, *]; rw [Bool.eq_iff_iff]; simp [*]; done), by repeat (first | exact HB.out | apply below_alloc | apply pw_below_drewN)⟩

end Go.Proofs.Ythniclbmpeklmaa.Ev
