/- What is proved: events as texts: both Lines, and the plain laws on them; numbers fit into 64 bits; the library's table of powers of ten reads as the rows list it. -/
import Derived.ChangeArms
import Derived.WideShapes
import Derived.OpenShut
import Derived.Deep.Slices
import Derived.Test.YthniclbmpeklmaaDoorWWords
import Derived.Test.YthniclbmpeklmaaDoorRows
import Derived.Lib.LaidTab
import Derived.Test.YthniclbmpeklmaaDoorMEv1
import Derived.Test.YthniclbmpeklmaaDoorMEv12
namespace Go.Proofs.YthniclbmpeklmaaDoor.KEv
open Go.RowKit Go.Proofs.YthniclbmpeklmaaDoorW.PrintWords Go.Proofs.YthniclbmpeklmaaDoorW.PrintLast Go.Proofs.YthniclbmpeklmaaDoorW.PrintMore
attribute [local go_sem] max2_int min2_int max_two min_two max_three min_three max_four min_four   -- for this text's walks alone
set_option linter.unusedVariables false
set_option linter.unusedSimpArgs false

attribute [local go_sem high] eqA25
/-! ### knelllaw11_EventUnlike: function 4 -/
def knelllaw11_EventUnlike.j0 : Nat → Bool → Int → Int → Int → Int → Int → Int → Int → Int → Int → Int → Bool → Int → Int → Int → Int → Int → Int → Int → Int → Int → Int → Int → Bool → Int → Option (Bool)
  | 0, _, _, _, _, _, _, _, _, _, _, _, _, _, _, _, _, _, _, _, _, _, _, _, _, _ => none
  | k + 1, x16, x135000, x135001, x135002, x135003, x135004, x135005, x135006, x135007, x135008, x135009, x135010, x135011, x136000, x136001, x136002, x136003, x136004, x136005, x136006, x136007, x136008, x136009, x136010, x136011 => if x16 = true then ((knelllaw11_speaks.f).bind fun t139 => (some t139)) else ((knelllaw11_Of.f x135000 x135001 x135002 x135003 x135004 x135005 x135006 x135007 x135008 x135009 x135010 x135011).bind fun bt140 => ((event_Line.f bt140.1 bt140.2.1 bt140.2.2.1 bt140.2.2.2.1 bt140.2.2.2.2.1 bt140.2.2.2.2.2.1 bt140.2.2.2.2.2.2.1 bt140.2.2.2.2.2.2.2.1 bt140.2.2.2.2.2.2.2.2.1 bt140.2.2.2.2.2.2.2.2.2.1 bt140.2.2.2.2.2.2.2.2.2.2.1 bt140.2.2.2.2.2.2.2.2.2.2.2).bind fun t152 => ((knelllaw11_Of.f x136000 x136001 x136002 x136003 x136004 x136005 x136006 x136007 x136008 x136009 x136010 x136011).bind fun bt153 => ((event_Line.f bt153.1 bt153.2.1 bt153.2.2.1 bt153.2.2.2.1 bt153.2.2.2.2.1 bt153.2.2.2.2.2.1 bt153.2.2.2.2.2.2.1 bt153.2.2.2.2.2.2.2.1 bt153.2.2.2.2.2.2.2.2.1 bt153.2.2.2.2.2.2.2.2.2.1 bt153.2.2.2.2.2.2.2.2.2.2.1 bt153.2.2.2.2.2.2.2.2.2.2.2).bind fun t165 => (some ((t152.toList == t165.toList) == (x135000 == x136000 && (x135001 == x136001 && (x135002 == x136002 && ((x135003 == x136003 && (x135004 == x136004)) && ((x135005 == x136005 && (x135006 == x136006)) && (x135007 == x136007 && (x135008 == x136008 && (x135009 == x136009 && (x135010 == x136010 && (x135011 == x136011))))))))))))))))
def knelllaw11_EventUnlike.f (k : Nat) (a0_0 : Int) (a0_1 : Int) (a0_2 : Int) (a0_3 : Int) (a0_4 : Int) (a0_5 : Int) (a0_6 : Int) (a0_7 : Int) (a0_8 : Int) (a0_9 : Int) (a0_10 : Bool) (a0_11 : Int) (a1_0 : Int) (a1_1 : Int) (a1_2 : Int) (a1_3 : Int) (a1_4 : Int) (a1_5 : Int) (a1_6 : Int) (a1_7 : Int) (a1_8 : Int) (a1_9 : Int) (a1_10 : Bool) (a1_11 : Int) : Option (Bool) := (knelllaw11_speaks.f).bind fun t136 => (if t136 = true then ((knellref11_Right.f a0_0 a0_1 a0_2 a0_3 a0_4 a0_5 a0_6 a0_7 a0_8 a0_9 a0_10 a0_11).bind fun t137 => (if t137 = true then ((knellref11_Right.f a1_0 a1_1 a1_2 a1_3 a1_4 a1_5 a1_6 a1_7 a1_8 a1_9 a1_10 a1_11).bind fun t138 => (knelllaw11_EventUnlike.j0 k (!t138) a0_0 a0_1 a0_2 a0_3 a0_4 a0_5 a0_6 a0_7 a0_8 a0_9 a0_10 a0_11 a1_0 a1_1 a1_2 a1_3 a1_4 a1_5 a1_6 a1_7 a1_8 a1_9 a1_10 a1_11)) else (knelllaw11_EventUnlike.j0 k true a0_0 a0_1 a0_2 a0_3 a0_4 a0_5 a0_6 a0_7 a0_8 a0_9 a0_10 a0_11 a1_0 a1_1 a1_2 a1_3 a1_4 a1_5 a1_6 a1_7 a1_8 a1_9 a1_10 a1_11))) else (knelllaw11_EventUnlike.j0 k true a0_0 a0_1 a0_2 a0_3 a0_4 a0_5 a0_6 a0_7 a0_8 a0_9 a0_10 a0_11 a1_0 a1_1 a1_2 a1_3 a1_4 a1_5 a1_6 a1_7 a1_8 a1_9 a1_10 a1_11))
theorem knelllaw11_EventUnlike.mono_l : ∀ k, (∀ y0 y1 y2 y3 y4 y5 y6 y7 y8 y9 y10 y11 y12 y13 y14 y15 y16 y17 y18 y19 y20 y21 y22 y23 y24, LeO (knelllaw11_EventUnlike.j0 k y0 y1 y2 y3 y4 y5 y6 y7 y8 y9 y10 y11 y12 y13 y14 y15 y16 y17 y18 y19 y20 y21 y22 y23 y24) (knelllaw11_EventUnlike.j0 (k + 1) y0 y1 y2 y3 y4 y5 y6 y7 y8 y9 y10 y11 y12 y13 y14 y15 y16 y17 y18 y19 y20 y21 y22 y23 y24))
  | 0 => fun _ _ _ _ _ _ _ _ _ _ _ _ _ _ _ _ _ _ _ _ _ _ _ _ _ r h => by simp [knelllaw11_EventUnlike.j0] at h
  | k + 1 => by
    have ih0 := knelllaw11_EventUnlike.mono_l k
    · intro y0 y1 y2 y3 y4 y5 y6 y7 y8 y9 y10 y11 y12 y13 y14 y15 y16 y17 y18 y19 y20 y21 y22 y23 y24
      unfold knelllaw11_EventUnlike.j0
      repeat' first
      | (with_reducible exact ih0 _ _ _ _ _ _ _ _ _ _ _ _ _ _ _ _ _ _ _ _ _ _ _ _ _)
      | (with_reducible exact LeO.refl _)
      | (with_reducible exact LeO.none _)
      | (with_reducible refine LeO.ite ?_ ?_)
      | (with_reducible refine LeO.bind ?_ (fun _ => ?_))
      | exact ih0 _ _ _ _ _ _ _ _ _ _ _ _ _ _ _ _ _ _ _ _ _ _ _ _ _
      | exact LeO.none _
      | refine LeO.ite ?_ ?_
      | refine LeO.bind ?_ (fun _ => ?_)
theorem knelllaw11_EventUnlike.mono : ∀ a0 a1 a2 a3 a4 a5 a6 a7 a8 a9 a10 a11 a12 a13 a14 a15 a16 a17 a18 a19 a20 a21 a22 a23 k, LeO (knelllaw11_EventUnlike.f k a0 a1 a2 a3 a4 a5 a6 a7 a8 a9 a10 a11 a12 a13 a14 a15 a16 a17 a18 a19 a20 a21 a22 a23) (knelllaw11_EventUnlike.f (k + 1) a0 a1 a2 a3 a4 a5 a6 a7 a8 a9 a10 a11 a12 a13 a14 a15 a16 a17 a18 a19 a20 a21 a22 a23) := by
  intro a0 a1 a2 a3 a4 a5 a6 a7 a8 a9 a10 a11 a12 a13 a14 a15 a16 a17 a18 a19 a20 a21 a22 a23 k
  have ih0 := knelllaw11_EventUnlike.mono_l k
  unfold knelllaw11_EventUnlike.f
  repeat' first
      | (with_reducible exact ih0 _ _ _ _ _ _ _ _ _ _ _ _ _ _ _ _ _ _ _ _ _ _ _ _ _)
      | (with_reducible exact LeO.refl _)
      | (with_reducible exact LeO.none _)
      | (with_reducible refine LeO.ite ?_ ?_)
      | (with_reducible refine LeO.bind ?_ (fun _ => ?_))
      | exact ih0 _ _ _ _ _ _ _ _ _ _ _ _ _ _ _ _ _ _ _ _ _ _ _ _ _
      | exact LeO.none _
      | refine LeO.ite ?_ ?_
      | refine LeO.bind ?_ (fun _ => ?_)
def knelllaw11_EventUnlike.T3 : Bool × List (List Nat × List Nat) := (true, [([], []), ([0], [0]), ([1, 1], [1]), ([], []), ([3, 2], [3]), ([4, 4], [4]), ([2, 5], [2, 5]), ([], []), ([], []), ([7, 8], [7, 8]), ([6, 9], [6, 9]), ([10, 5, 0, 1, 2, 3, 4, 5, 6, 7, 8, 9, 10], [10])])
def knelllaw11_EventUnlike.B3 : List Nat := [0, 1, 3, 0, 15, 31, 63, 0, 0, 384, 1023, 2047]
theorem knelllaw11_EventUnlike.tab3 : rtab .any (opsOf Tryd.f4 3) = knelllaw11_EventUnlike.T3 := by kernel_rfl
theorem knelllaw11_EventUnlike.bits3 : waitsOk knelllaw11_EventUnlike.T3.2 knelllaw11_EventUnlike.B3 = true := by kernel_rfl
set_option maxHeartbeats 8000000 in
set_option maxRecDepth 100000 in
theorem knelllaw11_EventUnlike.calls (k : Nat) (a0_0 : Int) (a0_1 : Int) (a0_2 : Int) (a0_3 : Int) (a0_4 : Int) (a0_5 : Int) (a0_6 : Int) (a0_7 : Int) (a0_8 : Int) (a0_9 : Int) (a0_10 : Bool) (a0_11 : Int) (a1_0 : Int) (a1_1 : Int) (a1_2 : Int) (a1_3 : Int) (a1_4 : Int) (a1_5 : Int) (a1_6 : Int) (a1_7 : Int) (a1_8 : Int) (a1_9 : Int) (a1_10 : Bool) (a1_11 : Int) (r : Bool) (w : World) (htab_ : Go.Proofs.YthniclbmpeklmaaDoor.Ev.Tab w) (h : knelllaw11_EventUnlike.f k a0_0 a0_1 a0_2 a0_3 a0_4 a0_5 a0_6 a0_7 a0_8 a0_9 a0_10 a0_11 a1_0 a1_1 a1_2 a1_3 a1_4 a1_5 a1_6 a1_7 a1_8 a1_9 a1_10 a1_11 = some r) :
    Calls Tryd.prog 4 #[.agg #[.int .i64 a0_0, .int .i64 a0_1, .int .i64 a0_2, .int .i64 a0_3, .int .i64 a0_4, .int .i64 a0_5, .int .i64 a0_6, .int .i64 a0_7, .int .i64 a0_8, .int .i64 a0_9, .bool a0_10, .int .i64 a0_11], .agg #[.int .i64 a1_0, .int .i64 a1_1, .int .i64 a1_2, .int .i64 a1_3, .int .i64 a1_4, .int .i64 a1_5, .int .i64 a1_6, .int .i64 a1_7, .int .i64 a1_8, .int .i64 a1_9, .bool a1_10, .int .i64 a1_11]] w fun e w' => e = .returned (.bool r) ∧ Below w.heap.size w w' := by
  have HTAB_ := Aside0.mk htab_
  clear htab_
  have hu25 := Tryd.underlying25
  have HB := Aside0.mk (Below.refl w.heap.size w)
  have H : ((knelllaw11_speaks.f).bind fun t136 => (if t136 = true then ((knellref11_Right.f a0_0 a0_1 a0_2 a0_3 a0_4 a0_5 a0_6 a0_7 a0_8 a0_9 a0_10 a0_11).bind fun t137 => (if t137 = true then ((knellref11_Right.f a1_0 a1_1 a1_2 a1_3 a1_4 a1_5 a1_6 a1_7 a1_8 a1_9 a1_10 a1_11).bind fun t138 => (knelllaw11_EventUnlike.j0 k (!t138) a0_0 a0_1 a0_2 a0_3 a0_4 a0_5 a0_6 a0_7 a0_8 a0_9 a0_10 a0_11 a1_0 a1_1 a1_2 a1_3 a1_4 a1_5 a1_6 a1_7 a1_8 a1_9 a1_10 a1_11)) else (knelllaw11_EventUnlike.j0 k true a0_0 a0_1 a0_2 a0_3 a0_4 a0_5 a0_6 a0_7 a0_8 a0_9 a0_10 a0_11 a1_0 a1_1 a1_2 a1_3 a1_4 a1_5 a1_6 a1_7 a1_8 a1_9 a1_10 a1_11))) else (knelllaw11_EventUnlike.j0 k true a0_0 a0_1 a0_2 a0_3 a0_4 a0_5 a0_6 a0_7 a0_8 a0_9 a0_10 a0_11 a1_0 a1_1 a1_2 a1_3 a1_4 a1_5 a1_6 a1_7 a1_8 a1_9 a1_10 a1_11))) = some r := h
  clear h
  have HC3 := Aside0.mk H
  clear H
  go_enter Tryd.func4, Tryd.ntmps4
  go_upto_region 1 with (first | ((with_reducible refine gate_dst (N := 2) rfl ?_); refine box_event ?hg (N := 2) ?hd (cs := #[.int .i64 a0_0, .int .i64 a0_1, .int .i64 a0_2, .int .i64 a0_3, .int .i64 a0_4, .int .i64 a0_5, .int .i64 a0_6, .int .i64 a0_7, .int .i64 a0_8, .int .i64 a0_9, .bool a0_10, .int .i64 a0_11]) (t := 25) ?hr ?_; (case hd => rfl); (case hg => rfl); (case hr => first | (go_simp; done) | (go_simp; rfl)); intro gb134 hg w4 hbox hb; have n0_ := Aside0.mk (below_step (by repeat (first | (with_reducible first | exact HB.out | apply below_alloc | apply pw_below_drewN | apply below_drew1) | exact HB.out)) hb); have n1_ := Aside0.mk (hbox); have n2_ := Aside0.mk ((by rw [hg]; exact (below_size (by repeat (first | (with_reducible first | exact HB.out | apply below_alloc | apply pw_below_drewN | apply below_drew1) | exact HB.out))) : w.heap.size ≤ gb134)); have n3_ := Aside0.mk ((by rw [hg]; exact (below_size (by repeat (first | (with_reducible first | exact HB.out | apply below_alloc | apply pw_below_drewN | apply below_drew1) | exact HB.out))) : w.heap.size ≤ gb134)); clear HB; have HB := n0_; have BK134 := n1_; have GW134 := n2_; have GE134 := n3_; clear n0_ n1_ n2_ n3_; clear hb hbox hg) | ((with_reducible refine gate_dst (N := 3) rfl ?_); refine box_event ?hg (N := 3) ?hd (cs := #[.int .i64 a1_0, .int .i64 a1_1, .int .i64 a1_2, .int .i64 a1_3, .int .i64 a1_4, .int .i64 a1_5, .int .i64 a1_6, .int .i64 a1_7, .int .i64 a1_8, .int .i64 a1_9, .bool a1_10, .int .i64 a1_11]) (t := 25) ?hr ?_; (case hd => rfl); (case hg => rfl); (case hr => first | (go_simp; done) | (go_simp; rfl)); intro gb135 hg w5 hbox hb; have n0_ := Aside0.mk (blk_below (g := gb134) (o := .cells #[.int .i64 a0_0, .int .i64 a0_1, .int .i64 a0_2, .int .i64 a0_3, .int .i64 a0_4, .int .i64 a0_5, .int .i64 a0_6, .int .i64 a0_7, .int .i64 a0_8, .int .i64 a0_9, .bool a0_10, .int .i64 a0_11] 25 (0, 0)) (by (with_reducible repeat (first | refine blk_drewN ?_ _ | refine blk_drew ?_ | refine blk_alloc ?_ _)); exact BK134.out) hb); have n1_ := Aside0.mk (below_step (by repeat (first | (with_reducible first | exact HB.out | apply below_alloc | apply pw_below_drewN | apply below_drew1 | refine below_set ?_ GE134.out) | exact HB.out)) hb); have n2_ := Aside0.mk (hbox); have n3_ := Aside0.mk ((by rw [hg]; exact (below_size (by repeat (first | (with_reducible first | exact HB.out | apply below_alloc | apply pw_below_drewN | apply below_drew1 | refine below_set ?_ GE134.out) | exact HB.out))) : w.heap.size ≤ gb135)); have n4_ := Aside0.mk ((by rw [hg]; exact (below_size (by repeat (first | (with_reducible first | exact HB.out | apply below_alloc | apply pw_below_drewN | apply below_drew1 | refine below_set ?_ GE134.out) | exact HB.out))) : w.heap.size ≤ gb135)); have n5_ := Aside0.mk ((by rw [hg]; exact Nat.ne_of_lt (blk_lt (g := gb134) (o := .cells #[.int .i64 a0_0, .int .i64 a0_1, .int .i64 a0_2, .int .i64 a0_3, .int .i64 a0_4, .int .i64 a0_5, .int .i64 a0_6, .int .i64 a0_7, .int .i64 a0_8, .int .i64 a0_9, .bool a0_10, .int .i64 a0_11] 25 (0, 0)) (by (with_reducible repeat (first | refine blk_drewN ?_ _ | refine blk_drew ?_ | refine blk_alloc ?_ _)); exact BK134.out)) : gb134 ≠ gb135)); have n6_ := Aside0.mk ((by rw [hg]; exact Nat.ne_of_gt (blk_lt (g := gb134) (o := .cells #[.int .i64 a0_0, .int .i64 a0_1, .int .i64 a0_2, .int .i64 a0_3, .int .i64 a0_4, .int .i64 a0_5, .int .i64 a0_6, .int .i64 a0_7, .int .i64 a0_8, .int .i64 a0_9, .bool a0_10, .int .i64 a0_11] 25 (0, 0)) (by (with_reducible repeat (first | refine blk_drewN ?_ _ | refine blk_drew ?_ | refine blk_alloc ?_ _)); exact BK134.out)) : gb135 ≠ gb134)); clear BK134; clear HB; have BK134 := n0_; have HB := n1_; have BK135 := n2_; have GW135 := n3_; have GE135 := n4_; have NB134_135 := n5_; have NB135_134 := n6_; clear n0_ n1_ n2_ n3_ n4_ n5_ n6_; clear hb hbox hg))
  (try simp only [Act.put, List.setIfInBounds_toArray, List.set_cons_zero, List.set_cons_succ])
  go_cut [16] (fun v16 wc => ∃ (kq : Nat) (x16_2 : Bool), v16 = .bool x16_2 ∧ Aside0 (knelllaw11_EventUnlike.j0 kq x16_2 a0_0 a0_1 a0_2 a0_3 a0_4 a0_5 a0_6 a0_7 a0_8 a0_9 a0_10 a0_11 a1_0 a1_1 a1_2 a1_3 a1_4 a1_5 a1_6 a1_7 a1_8 a1_9 a1_10 a1_11 = some r) ∧ Aside0 (kq ≤ k) ∧ Aside0 (wc.heap[gb134]? = some (.cells #[.int .i64 a0_0, .int .i64 a0_1, .int .i64 a0_2, .int .i64 a0_3, .int .i64 a0_4, .int .i64 a0_5, .int .i64 a0_6, .int .i64 a0_7, .int .i64 a0_8, .int .i64 a0_9, .bool a0_10, .int .i64 a0_11] 25 (0, 0))) ∧ Aside0 (wc.heap[gb135]? = some (.cells #[.int .i64 a1_0, .int .i64 a1_1, .int .i64 a1_2, .int .i64 a1_3, .int .i64 a1_4, .int .i64 a1_5, .int .i64 a1_6, .int .i64 a1_7, .int .i64 a1_8, .int .i64 a1_9, .bool a1_10, .int .i64 a1_11] 25 (0, 0))) ∧ Aside0 (Below w.heap.size w wc))
  case first =>
    have H := HC3.out
    clear HC3
    replace H := Option.bind_eq_some_iff.mp H
    obtain ⟨t136, A60, H⟩ := H
    replace H : (if t136 = true then ((knellref11_Right.f a0_0 a0_1 a0_2 a0_3 a0_4 a0_5 a0_6 a0_7 a0_8 a0_9 a0_10 a0_11).bind fun t137 => (if t137 = true then ((knellref11_Right.f a1_0 a1_1 a1_2 a1_3 a1_4 a1_5 a1_6 a1_7 a1_8 a1_9 a1_10 a1_11).bind fun t138 => (knelllaw11_EventUnlike.j0 k (!t138) a0_0 a0_1 a0_2 a0_3 a0_4 a0_5 a0_6 a0_7 a0_8 a0_9 a0_10 a0_11 a1_0 a1_1 a1_2 a1_3 a1_4 a1_5 a1_6 a1_7 a1_8 a1_9 a1_10 a1_11)) else (knelllaw11_EventUnlike.j0 k true a0_0 a0_1 a0_2 a0_3 a0_4 a0_5 a0_6 a0_7 a0_8 a0_9 a0_10 a0_11 a1_0 a1_1 a1_2 a1_3 a1_4 a1_5 a1_6 a1_7 a1_8 a1_9 a1_10 a1_11))) else (knelllaw11_EventUnlike.j0 k true a0_0 a0_1 a0_2 a0_3 a0_4 a0_5 a0_6 a0_7 a0_8 a0_9 a0_10 a0_11 a1_0 a1_1 a1_2 a1_3 a1_4 a1_5 a1_6 a1_7 a1_8 a1_9 a1_10 a1_11)) = some r := H
    have A6 := Aside0.mk A60
    clear A60
    by_cases c7 : t136 = true
    · subst c7
      have H1 : ((knellref11_Right.f a0_0 a0_1 a0_2 a0_3 a0_4 a0_5 a0_6 a0_7 a0_8 a0_9 a0_10 a0_11).bind fun t137 => (if t137 = true then ((knellref11_Right.f a1_0 a1_1 a1_2 a1_3 a1_4 a1_5 a1_6 a1_7 a1_8 a1_9 a1_10 a1_11).bind fun t138 => (knelllaw11_EventUnlike.j0 k (!t138) a0_0 a0_1 a0_2 a0_3 a0_4 a0_5 a0_6 a0_7 a0_8 a0_9 a0_10 a0_11 a1_0 a1_1 a1_2 a1_3 a1_4 a1_5 a1_6 a1_7 a1_8 a1_9 a1_10 a1_11)) else (knelllaw11_EventUnlike.j0 k true a0_0 a0_1 a0_2 a0_3 a0_4 a0_5 a0_6 a0_7 a0_8 a0_9 a0_10 a0_11 a1_0 a1_1 a1_2 a1_3 a1_4 a1_5 a1_6 a1_7 a1_8 a1_9 a1_10 a1_11))) = some r := by rw [if_pos rfl] at H; exact H
      clear H
      have H := H1
      clear H1
      replace H := Option.bind_eq_some_iff.mp H
      obtain ⟨t137, A80, H⟩ := H
      replace H : (if t137 = true then ((knellref11_Right.f a1_0 a1_1 a1_2 a1_3 a1_4 a1_5 a1_6 a1_7 a1_8 a1_9 a1_10 a1_11).bind fun t138 => (knelllaw11_EventUnlike.j0 k (!t138) a0_0 a0_1 a0_2 a0_3 a0_4 a0_5 a0_6 a0_7 a0_8 a0_9 a0_10 a0_11 a1_0 a1_1 a1_2 a1_3 a1_4 a1_5 a1_6 a1_7 a1_8 a1_9 a1_10 a1_11)) else (knelllaw11_EventUnlike.j0 k true a0_0 a0_1 a0_2 a0_3 a0_4 a0_5 a0_6 a0_7 a0_8 a0_9 a0_10 a0_11 a1_0 a1_1 a1_2 a1_3 a1_4 a1_5 a1_6 a1_7 a1_8 a1_9 a1_10 a1_11)) = some r := H
      have A8 := Aside0.mk A80
      clear A80
      by_cases c9 : t137 = true
      · subst c9
        have H1 : ((knellref11_Right.f a1_0 a1_1 a1_2 a1_3 a1_4 a1_5 a1_6 a1_7 a1_8 a1_9 a1_10 a1_11).bind fun t138 => (knelllaw11_EventUnlike.j0 k (!t138) a0_0 a0_1 a0_2 a0_3 a0_4 a0_5 a0_6 a0_7 a0_8 a0_9 a0_10 a0_11 a1_0 a1_1 a1_2 a1_3 a1_4 a1_5 a1_6 a1_7 a1_8 a1_9 a1_10 a1_11)) = some r := by rw [if_pos rfl] at H; exact H
        clear H
        have H := H1
        clear H1
        replace H := Option.bind_eq_some_iff.mp H
        obtain ⟨t138, A100, H⟩ := H
        replace H : (knelllaw11_EventUnlike.j0 k (!t138) a0_0 a0_1 a0_2 a0_3 a0_4 a0_5 a0_6 a0_7 a0_8 a0_9 a0_10 a0_11 a1_0 a1_1 a1_2 a1_3 a1_4 a1_5 a1_6 a1_7 a1_8 a1_9 a1_10 a1_11) = some r := H
        have A10 := Aside0.mk A100
        clear A100
        have H' := Aside0.mk H
        clear H
        go_wp2_with (first | ((with_reducible refine gate_callee (f := 7) rfl ?_); refine goesL_ (some 5) rfl rfl Tryd.func7 (by kernel_rfl) rfl #[] rfl (by (try simp only [List.map_toArray, List.map_cons, List.map_nil]); first | done | rfl | (simp only [List.length_drop, List.length_take]; rfl)) ?_; (with_reducible refine (knelllaw11_speaks.calls  true _ (Go.Proofs.YthniclbmpeklmaaDoor.Ev.Tab.below HTAB_.out (by repeat (first | (with_reducible first | exact HB.out | apply below_alloc | apply pw_below_drewN | apply below_drew1) | exact HB.out))) A6.out).mono ?_); rintro e w11 ⟨rfl, hb⟩; refine ⟨_, rfl, ?_⟩; have n0_ := Aside0.mk (blk_below (g := gb134) (o := .cells #[.int .i64 a0_0, .int .i64 a0_1, .int .i64 a0_2, .int .i64 a0_3, .int .i64 a0_4, .int .i64 a0_5, .int .i64 a0_6, .int .i64 a0_7, .int .i64 a0_8, .int .i64 a0_9, .bool a0_10, .int .i64 a0_11] 25 (0, 0)) (by (with_reducible repeat (first | refine blk_drewN ?_ _ | refine blk_drew ?_ | refine blk_alloc ?_ _)); exact BK134.out) hb); have n1_ := Aside0.mk (blk_below (g := gb135) (o := .cells #[.int .i64 a1_0, .int .i64 a1_1, .int .i64 a1_2, .int .i64 a1_3, .int .i64 a1_4, .int .i64 a1_5, .int .i64 a1_6, .int .i64 a1_7, .int .i64 a1_8, .int .i64 a1_9, .bool a1_10, .int .i64 a1_11] 25 (0, 0)) (by (with_reducible repeat (first | refine blk_drewN ?_ _ | refine blk_drew ?_ | refine blk_alloc ?_ _)); exact BK135.out) hb); have n2_ := Aside0.mk (below_step (by repeat (first | (with_reducible first | exact HB.out | apply below_alloc | apply pw_below_drewN | apply below_drew1 | refine below_set ?_ GE134.out | refine below_set ?_ GE135.out) | exact HB.out)) hb); clear BK134; clear BK135; clear HB; have BK134 := n0_; have BK135 := n1_; have HB := n2_; clear n0_ n1_ n2_; (try clear hb); (try clear hb2); (try clear hk); (try clear hi); have hnb12 := NB134_135.out; have hnc12 := NB135_134.out; have hcz13_0 : w11.cell? ⟨gb134, 0, none⟩ = some (.int .i64 a0_0) := (blk_cell BK134.out 0).trans rfl; have hcz13_1 : w11.cell? ⟨gb134, 1, none⟩ = some (.int .i64 a0_1) := (blk_cell BK134.out 1).trans rfl; have hcz13_2 : w11.cell? ⟨gb134, 2, none⟩ = some (.int .i64 a0_2) := (blk_cell BK134.out 2).trans rfl; have hcz13_3 : w11.cell? ⟨gb134, 3, none⟩ = some (.int .i64 a0_3) := (blk_cell BK134.out 3).trans rfl; have hcz13_4 : w11.cell? ⟨gb134, 4, none⟩ = some (.int .i64 a0_4) := (blk_cell BK134.out 4).trans rfl; have hcz13_5 : w11.cell? ⟨gb134, 5, none⟩ = some (.int .i64 a0_5) := (blk_cell BK134.out 5).trans rfl; have hcz13_6 : w11.cell? ⟨gb134, 6, none⟩ = some (.int .i64 a0_6) := (blk_cell BK134.out 6).trans rfl; have hcz13_7 : w11.cell? ⟨gb134, 7, none⟩ = some (.int .i64 a0_7) := (blk_cell BK134.out 7).trans rfl; have hcz13_8 : w11.cell? ⟨gb134, 8, none⟩ = some (.int .i64 a0_8) := (blk_cell BK134.out 8).trans rfl; have hcz13_9 : w11.cell? ⟨gb134, 9, none⟩ = some (.int .i64 a0_9) := (blk_cell BK134.out 9).trans rfl; have hcz13_10 : w11.cell? ⟨gb134, 10, none⟩ = some (.bool a0_10) := (blk_cell BK134.out 10).trans rfl; have hcz13_11 : w11.cell? ⟨gb134, 11, none⟩ = some (.int .i64 a0_11) := (blk_cell BK134.out 11).trans rfl; have hfz13_0 := blk_frozen BK134.out 0; have hfz13_1 := blk_frozen BK134.out 1; have hfz13_2 := blk_frozen BK134.out 2; have hfz13_3 := blk_frozen BK134.out 3; have hfz13_4 := blk_frozen BK134.out 4; have hfz13_5 := blk_frozen BK134.out 5; have hfz13_6 := blk_frozen BK134.out 6; have hfz13_7 := blk_frozen BK134.out 7; have hfz13_8 := blk_frozen BK134.out 8; have hfz13_9 := blk_frozen BK134.out 9; have hfz13_10 := blk_frozen BK134.out 10; have hfz13_11 := blk_frozen BK134.out 11) | (go_at_call 10; (with_reducible refine (knellref11_Right.calls a0_0 a0_1 a0_2 a0_3 a0_4 a0_5 a0_6 a0_7 a0_8 a0_9 a0_10 a0_11 true _ A8.out).mono ?_); rintro e w14 ⟨rfl, hb⟩; have n0_ := Aside0.mk (blk_below (g := gb134) (o := .cells #[.int .i64 a0_0, .int .i64 a0_1, .int .i64 a0_2, .int .i64 a0_3, .int .i64 a0_4, .int .i64 a0_5, .int .i64 a0_6, .int .i64 a0_7, .int .i64 a0_8, .int .i64 a0_9, .bool a0_10, .int .i64 a0_11] 25 (0, 0)) (by (with_reducible repeat (first | refine blk_drewN ?_ _ | refine blk_drew ?_ | refine blk_alloc ?_ _)); exact BK134.out) hb); have n1_ := Aside0.mk (blk_below (g := gb135) (o := .cells #[.int .i64 a1_0, .int .i64 a1_1, .int .i64 a1_2, .int .i64 a1_3, .int .i64 a1_4, .int .i64 a1_5, .int .i64 a1_6, .int .i64 a1_7, .int .i64 a1_8, .int .i64 a1_9, .bool a1_10, .int .i64 a1_11] 25 (0, 0)) (by (with_reducible repeat (first | refine blk_drewN ?_ _ | refine blk_drew ?_ | refine blk_alloc ?_ _)); exact BK135.out) hb); have n2_ := Aside0.mk (below_step (by repeat (first | (with_reducible first | exact HB.out | apply below_alloc | apply pw_below_drewN | apply below_drew1 | refine below_set ?_ GE134.out | refine below_set ?_ GE135.out) | exact HB.out)) hb); clear BK134; clear BK135; clear HB; have BK134 := n0_; have BK135 := n1_; have HB := n2_; clear n0_ n1_ n2_; (try clear hb); (try clear hb2); (try clear hk); (try clear hi); have hcz15_0 : w14.cell? ⟨gb135, 0, none⟩ = some (.int .i64 a1_0) := (blk_cell BK135.out 0).trans rfl; have hcz15_1 : w14.cell? ⟨gb135, 1, none⟩ = some (.int .i64 a1_1) := (blk_cell BK135.out 1).trans rfl; have hcz15_2 : w14.cell? ⟨gb135, 2, none⟩ = some (.int .i64 a1_2) := (blk_cell BK135.out 2).trans rfl; have hcz15_3 : w14.cell? ⟨gb135, 3, none⟩ = some (.int .i64 a1_3) := (blk_cell BK135.out 3).trans rfl; have hcz15_4 : w14.cell? ⟨gb135, 4, none⟩ = some (.int .i64 a1_4) := (blk_cell BK135.out 4).trans rfl; have hcz15_5 : w14.cell? ⟨gb135, 5, none⟩ = some (.int .i64 a1_5) := (blk_cell BK135.out 5).trans rfl; have hcz15_6 : w14.cell? ⟨gb135, 6, none⟩ = some (.int .i64 a1_6) := (blk_cell BK135.out 6).trans rfl; have hcz15_7 : w14.cell? ⟨gb135, 7, none⟩ = some (.int .i64 a1_7) := (blk_cell BK135.out 7).trans rfl; have hcz15_8 : w14.cell? ⟨gb135, 8, none⟩ = some (.int .i64 a1_8) := (blk_cell BK135.out 8).trans rfl; have hcz15_9 : w14.cell? ⟨gb135, 9, none⟩ = some (.int .i64 a1_9) := (blk_cell BK135.out 9).trans rfl; have hcz15_10 : w14.cell? ⟨gb135, 10, none⟩ = some (.bool a1_10) := (blk_cell BK135.out 10).trans rfl; have hcz15_11 : w14.cell? ⟨gb135, 11, none⟩ = some (.int .i64 a1_11) := (blk_cell BK135.out 11).trans rfl; have hfz15_0 := blk_frozen BK135.out 0; have hfz15_1 := blk_frozen BK135.out 1; have hfz15_2 := blk_frozen BK135.out 2; have hfz15_3 := blk_frozen BK135.out 3; have hfz15_4 := blk_frozen BK135.out 4; have hfz15_5 := blk_frozen BK135.out 5; have hfz15_6 := blk_frozen BK135.out 6; have hfz15_7 := blk_frozen BK135.out 7; have hfz15_8 := blk_frozen BK135.out 8; have hfz15_9 := blk_frozen BK135.out 9; have hfz15_10 := blk_frozen BK135.out 10; have hfz15_11 := blk_frozen BK135.out 11) | (go_at_call 10; (with_reducible refine (knellref11_Right.calls a1_0 a1_1 a1_2 a1_3 a1_4 a1_5 a1_6 a1_7 a1_8 a1_9 a1_10 a1_11 t138 _ A10.out).mono ?_); rintro e w16 ⟨rfl, hb⟩; have n0_ := Aside0.mk (blk_below (g := gb134) (o := .cells #[.int .i64 a0_0, .int .i64 a0_1, .int .i64 a0_2, .int .i64 a0_3, .int .i64 a0_4, .int .i64 a0_5, .int .i64 a0_6, .int .i64 a0_7, .int .i64 a0_8, .int .i64 a0_9, .bool a0_10, .int .i64 a0_11] 25 (0, 0)) (by (with_reducible repeat (first | refine blk_drewN ?_ _ | refine blk_drew ?_ | refine blk_alloc ?_ _)); exact BK134.out) hb); have n1_ := Aside0.mk (blk_below (g := gb135) (o := .cells #[.int .i64 a1_0, .int .i64 a1_1, .int .i64 a1_2, .int .i64 a1_3, .int .i64 a1_4, .int .i64 a1_5, .int .i64 a1_6, .int .i64 a1_7, .int .i64 a1_8, .int .i64 a1_9, .bool a1_10, .int .i64 a1_11] 25 (0, 0)) (by (with_reducible repeat (first | refine blk_drewN ?_ _ | refine blk_drew ?_ | refine blk_alloc ?_ _)); exact BK135.out) hb); have n2_ := Aside0.mk (below_step (by repeat (first | (with_reducible first | exact HB.out | apply below_alloc | apply pw_below_drewN | apply below_drew1 | refine below_set ?_ GE134.out | refine below_set ?_ GE135.out) | exact HB.out)) hb); clear BK134; clear BK135; clear HB; have BK134 := n0_; have BK135 := n1_; have HB := n2_; clear n0_ n1_ n2_; (try clear hb); (try clear hb2); (try clear hk); (try clear hi)))
        go_meet
        case rel => exact ⟨_, (!t138), (by first | rfl | (simp; done) | (simp [*]; done)), H', ⟨by first | omega | exact Nat.le_refl _⟩, ⟨by (with_reducible repeat (first | refine blk_drewN ?_ _ | refine blk_drew ?_ | refine blk_alloc ?_ _)); exact BK134.out⟩, ⟨by (with_reducible repeat (first | refine blk_drewN ?_ _ | refine blk_drew ?_ | refine blk_alloc ?_ _)); exact BK135.out⟩, ⟨by repeat (first | (with_reducible first | exact HB.out | apply below_alloc | apply pw_below_drewN | apply below_drew1 | refine below_set ?_ GE134.out | refine below_set ?_ GE135.out) | exact HB.out)⟩⟩
      · replace c9 := Bool.eq_false_iff.mpr c9
        subst c9
        have H1 : (knelllaw11_EventUnlike.j0 k true a0_0 a0_1 a0_2 a0_3 a0_4 a0_5 a0_6 a0_7 a0_8 a0_9 a0_10 a0_11 a1_0 a1_1 a1_2 a1_3 a1_4 a1_5 a1_6 a1_7 a1_8 a1_9 a1_10 a1_11) = some r := by rw [if_neg (show ¬ (false = true) by decide)] at H; exact H
        clear H
        have H := H1
        clear H1
        have H' := Aside0.mk H
        clear H
        go_wp2_with (first | ((with_reducible refine gate_callee (f := 7) rfl ?_); refine goesL_ (some 5) rfl rfl Tryd.func7 (by kernel_rfl) rfl #[] rfl (by (try simp only [List.map_toArray, List.map_cons, List.map_nil]); first | done | rfl | (simp only [List.length_drop, List.length_take]; rfl)) ?_; (with_reducible refine (knelllaw11_speaks.calls  true _ (Go.Proofs.YthniclbmpeklmaaDoor.Ev.Tab.below HTAB_.out (by repeat (first | (with_reducible first | exact HB.out | apply below_alloc | apply pw_below_drewN | apply below_drew1) | exact HB.out))) A6.out).mono ?_); rintro e w17 ⟨rfl, hb⟩; refine ⟨_, rfl, ?_⟩; have n0_ := Aside0.mk (blk_below (g := gb134) (o := .cells #[.int .i64 a0_0, .int .i64 a0_1, .int .i64 a0_2, .int .i64 a0_3, .int .i64 a0_4, .int .i64 a0_5, .int .i64 a0_6, .int .i64 a0_7, .int .i64 a0_8, .int .i64 a0_9, .bool a0_10, .int .i64 a0_11] 25 (0, 0)) (by (with_reducible repeat (first | refine blk_drewN ?_ _ | refine blk_drew ?_ | refine blk_alloc ?_ _)); exact BK134.out) hb); have n1_ := Aside0.mk (blk_below (g := gb135) (o := .cells #[.int .i64 a1_0, .int .i64 a1_1, .int .i64 a1_2, .int .i64 a1_3, .int .i64 a1_4, .int .i64 a1_5, .int .i64 a1_6, .int .i64 a1_7, .int .i64 a1_8, .int .i64 a1_9, .bool a1_10, .int .i64 a1_11] 25 (0, 0)) (by (with_reducible repeat (first | refine blk_drewN ?_ _ | refine blk_drew ?_ | refine blk_alloc ?_ _)); exact BK135.out) hb); have n2_ := Aside0.mk (below_step (by repeat (first | (with_reducible first | exact HB.out | apply below_alloc | apply pw_below_drewN | apply below_drew1 | refine below_set ?_ GE134.out | refine below_set ?_ GE135.out) | exact HB.out)) hb); clear BK134; clear BK135; clear HB; have BK134 := n0_; have BK135 := n1_; have HB := n2_; clear n0_ n1_ n2_; (try clear hb); (try clear hb2); (try clear hk); (try clear hi); have hnb18 := NB134_135.out; have hnc18 := NB135_134.out; have hcz19_0 : w17.cell? ⟨gb134, 0, none⟩ = some (.int .i64 a0_0) := (blk_cell BK134.out 0).trans rfl; have hcz19_1 : w17.cell? ⟨gb134, 1, none⟩ = some (.int .i64 a0_1) := (blk_cell BK134.out 1).trans rfl; have hcz19_2 : w17.cell? ⟨gb134, 2, none⟩ = some (.int .i64 a0_2) := (blk_cell BK134.out 2).trans rfl; have hcz19_3 : w17.cell? ⟨gb134, 3, none⟩ = some (.int .i64 a0_3) := (blk_cell BK134.out 3).trans rfl; have hcz19_4 : w17.cell? ⟨gb134, 4, none⟩ = some (.int .i64 a0_4) := (blk_cell BK134.out 4).trans rfl; have hcz19_5 : w17.cell? ⟨gb134, 5, none⟩ = some (.int .i64 a0_5) := (blk_cell BK134.out 5).trans rfl; have hcz19_6 : w17.cell? ⟨gb134, 6, none⟩ = some (.int .i64 a0_6) := (blk_cell BK134.out 6).trans rfl; have hcz19_7 : w17.cell? ⟨gb134, 7, none⟩ = some (.int .i64 a0_7) := (blk_cell BK134.out 7).trans rfl; have hcz19_8 : w17.cell? ⟨gb134, 8, none⟩ = some (.int .i64 a0_8) := (blk_cell BK134.out 8).trans rfl; have hcz19_9 : w17.cell? ⟨gb134, 9, none⟩ = some (.int .i64 a0_9) := (blk_cell BK134.out 9).trans rfl; have hcz19_10 : w17.cell? ⟨gb134, 10, none⟩ = some (.bool a0_10) := (blk_cell BK134.out 10).trans rfl; have hcz19_11 : w17.cell? ⟨gb134, 11, none⟩ = some (.int .i64 a0_11) := (blk_cell BK134.out 11).trans rfl; have hfz19_0 := blk_frozen BK134.out 0; have hfz19_1 := blk_frozen BK134.out 1; have hfz19_2 := blk_frozen BK134.out 2; have hfz19_3 := blk_frozen BK134.out 3; have hfz19_4 := blk_frozen BK134.out 4; have hfz19_5 := blk_frozen BK134.out 5; have hfz19_6 := blk_frozen BK134.out 6; have hfz19_7 := blk_frozen BK134.out 7; have hfz19_8 := blk_frozen BK134.out 8; have hfz19_9 := blk_frozen BK134.out 9; have hfz19_10 := blk_frozen BK134.out 10; have hfz19_11 := blk_frozen BK134.out 11) | (go_at_call 10; (with_reducible refine (knellref11_Right.calls a0_0 a0_1 a0_2 a0_3 a0_4 a0_5 a0_6 a0_7 a0_8 a0_9 a0_10 a0_11 false _ A8.out).mono ?_); rintro e w20 ⟨rfl, hb⟩; have n0_ := Aside0.mk (blk_below (g := gb134) (o := .cells #[.int .i64 a0_0, .int .i64 a0_1, .int .i64 a0_2, .int .i64 a0_3, .int .i64 a0_4, .int .i64 a0_5, .int .i64 a0_6, .int .i64 a0_7, .int .i64 a0_8, .int .i64 a0_9, .bool a0_10, .int .i64 a0_11] 25 (0, 0)) (by (with_reducible repeat (first | refine blk_drewN ?_ _ | refine blk_drew ?_ | refine blk_alloc ?_ _)); exact BK134.out) hb); have n1_ := Aside0.mk (blk_below (g := gb135) (o := .cells #[.int .i64 a1_0, .int .i64 a1_1, .int .i64 a1_2, .int .i64 a1_3, .int .i64 a1_4, .int .i64 a1_5, .int .i64 a1_6, .int .i64 a1_7, .int .i64 a1_8, .int .i64 a1_9, .bool a1_10, .int .i64 a1_11] 25 (0, 0)) (by (with_reducible repeat (first | refine blk_drewN ?_ _ | refine blk_drew ?_ | refine blk_alloc ?_ _)); exact BK135.out) hb); have n2_ := Aside0.mk (below_step (by repeat (first | (with_reducible first | exact HB.out | apply below_alloc | apply pw_below_drewN | apply below_drew1 | refine below_set ?_ GE134.out | refine below_set ?_ GE135.out) | exact HB.out)) hb); clear BK134; clear BK135; clear HB; have BK134 := n0_; have BK135 := n1_; have HB := n2_; clear n0_ n1_ n2_; (try clear hb); (try clear hb2); (try clear hk); (try clear hi)))
        go_meet
        case rel => exact ⟨_, (true), (by first | rfl | (simp; done) | (simp [*]; done)), H', ⟨by first | omega | exact Nat.le_refl _⟩, ⟨by (with_reducible repeat (first | refine blk_drewN ?_ _ | refine blk_drew ?_ | refine blk_alloc ?_ _)); exact BK134.out⟩, ⟨by (with_reducible repeat (first | refine blk_drewN ?_ _ | refine blk_drew ?_ | refine blk_alloc ?_ _)); exact BK135.out⟩, ⟨by repeat (first | (with_reducible first | exact HB.out | apply below_alloc | apply pw_below_drewN | apply below_drew1 | refine below_set ?_ GE134.out | refine below_set ?_ GE135.out) | exact HB.out)⟩⟩
    · replace c7 := Bool.eq_false_iff.mpr c7
      subst c7
      have H1 : (knelllaw11_EventUnlike.j0 k true a0_0 a0_1 a0_2 a0_3 a0_4 a0_5 a0_6 a0_7 a0_8 a0_9 a0_10 a0_11 a1_0 a1_1 a1_2 a1_3 a1_4 a1_5 a1_6 a1_7 a1_8 a1_9 a1_10 a1_11) = some r := by rw [if_neg (show ¬ (false = true) by decide)] at H; exact H
      clear H
      have H := H1
      clear H1
      have H' := Aside0.mk H
      clear H
      go_wp2_with (first | ((with_reducible refine gate_callee (f := 7) rfl ?_); refine goesL_ (some 5) rfl rfl Tryd.func7 (by kernel_rfl) rfl #[] rfl (by (try simp only [List.map_toArray, List.map_cons, List.map_nil]); first | done | rfl | (simp only [List.length_drop, List.length_take]; rfl)) ?_; (with_reducible refine (knelllaw11_speaks.calls  false _ (Go.Proofs.YthniclbmpeklmaaDoor.Ev.Tab.below HTAB_.out (by repeat (first | (with_reducible first | exact HB.out | apply below_alloc | apply pw_below_drewN | apply below_drew1) | exact HB.out))) A6.out).mono ?_); rintro e w21 ⟨rfl, hb⟩; refine ⟨_, rfl, ?_⟩; have n0_ := Aside0.mk (blk_below (g := gb134) (o := .cells #[.int .i64 a0_0, .int .i64 a0_1, .int .i64 a0_2, .int .i64 a0_3, .int .i64 a0_4, .int .i64 a0_5, .int .i64 a0_6, .int .i64 a0_7, .int .i64 a0_8, .int .i64 a0_9, .bool a0_10, .int .i64 a0_11] 25 (0, 0)) (by (with_reducible repeat (first | refine blk_drewN ?_ _ | refine blk_drew ?_ | refine blk_alloc ?_ _)); exact BK134.out) hb); have n1_ := Aside0.mk (blk_below (g := gb135) (o := .cells #[.int .i64 a1_0, .int .i64 a1_1, .int .i64 a1_2, .int .i64 a1_3, .int .i64 a1_4, .int .i64 a1_5, .int .i64 a1_6, .int .i64 a1_7, .int .i64 a1_8, .int .i64 a1_9, .bool a1_10, .int .i64 a1_11] 25 (0, 0)) (by (with_reducible repeat (first | refine blk_drewN ?_ _ | refine blk_drew ?_ | refine blk_alloc ?_ _)); exact BK135.out) hb); have n2_ := Aside0.mk (below_step (by repeat (first | (with_reducible first | exact HB.out | apply below_alloc | apply pw_below_drewN | apply below_drew1 | refine below_set ?_ GE134.out | refine below_set ?_ GE135.out) | exact HB.out)) hb); clear BK134; clear BK135; clear HB; have BK134 := n0_; have BK135 := n1_; have HB := n2_; clear n0_ n1_ n2_; (try clear hb); (try clear hb2); (try clear hk); (try clear hi)))
      go_meet
      case rel => exact ⟨_, (true), (by first | rfl | (simp; done) | (simp [*]; done)), H', ⟨by first | omega | exact Nat.le_refl _⟩, ⟨by (with_reducible repeat (first | refine blk_drewN ?_ _ | refine blk_drew ?_ | refine blk_alloc ?_ _)); exact BK134.out⟩, ⟨by (with_reducible repeat (first | refine blk_drewN ?_ _ | refine blk_drew ?_ | refine blk_alloc ?_ _)); exact BK135.out⟩, ⟨by repeat (first | (with_reducible first | exact HB.out | apply below_alloc | apply pw_below_drewN | apply below_drew1 | refine below_set ?_ GE134.out | refine below_set ?_ GE135.out) | exact HB.out)⟩⟩
  case rest =>
    clear HC3
    try clear c1
    try clear p2
    try clear c4
    try clear c7
    try clear c9
    try clear c12
    try clear c18
    try clear hcz13_0
    try clear hcz13_1
    try clear hcz13_10
    try clear hcz13_11
    try clear hcz13_2
    try clear hcz13_3
    try clear hcz13_4
    try clear hcz13_5
    try clear hcz13_6
    try clear hcz13_7
    try clear hcz13_8
    try clear hcz13_9
    try clear hcz15_0
    try clear hcz15_1
    try clear hcz15_10
    try clear hcz15_11
    try clear hcz15_2
    try clear hcz15_3
    try clear hcz15_4
    try clear hcz15_5
    try clear hcz15_6
    try clear hcz15_7
    try clear hcz15_8
    try clear hcz15_9
    try clear hcz19_0
    try clear hcz19_1
    try clear hcz19_10
    try clear hcz19_11
    try clear hcz19_2
    try clear hcz19_3
    try clear hcz19_4
    try clear hcz19_5
    try clear hcz19_6
    try clear hcz19_7
    try clear hcz19_8
    try clear hcz19_9
    try clear hfz13_0
    try clear hfz13_1
    try clear hfz13_10
    try clear hfz13_11
    try clear hfz13_2
    try clear hfz13_3
    try clear hfz13_4
    try clear hfz13_5
    try clear hfz13_6
    try clear hfz13_7
    try clear hfz13_8
    try clear hfz13_9
    try clear hfz15_0
    try clear hfz15_1
    try clear hfz15_10
    try clear hfz15_11
    try clear hfz15_2
    try clear hfz15_3
    try clear hfz15_4
    try clear hfz15_5
    try clear hfz15_6
    try clear hfz15_7
    try clear hfz15_8
    try clear hfz15_9
    try clear hfz19_0
    try clear hfz19_1
    try clear hfz19_10
    try clear hfz19_11
    try clear hfz19_2
    try clear hfz19_3
    try clear hfz19_4
    try clear hfz19_5
    try clear hfz19_6
    try clear hfz19_7
    try clear hfz19_8
    try clear hfz19_9
    obtain ⟨kq, x16_2, rfl, HA, HJ2, BK134, BK135, HB⟩ := hcut
    cases kq with
    | zero => exact absurd HA.out (by simp [knelllaw11_EventUnlike.j0])
    | succ kj2 =>
      have H := HA.out
      clear HA
      simp only [knelllaw11_EventUnlike.j0] at H
      by_cases c22 : x16_2 = true
      · subst c22
        have H1 : ((knelllaw11_speaks.f).bind fun t139 => (some t139)) = some r := by rw [if_pos rfl] at H; exact H
        clear H
        have H := H1
        clear H1
        replace H := Option.bind_eq_some_iff.mp H
        obtain ⟨t139, A230, H⟩ := H
        replace H : (some t139) = some r := H
        have A23 := Aside0.mk A230
        clear A230
        obtain rfl := Option.some.inj H
        go_wp2_with (first | ((with_reducible refine gate_callee (f := 7) rfl ?_); refine goesL_ (some 17) rfl rfl Tryd.func7 (by kernel_rfl) rfl #[] rfl (by (try simp only [List.map_toArray, List.map_cons, List.map_nil]); first | done | rfl | (simp only [List.length_drop, List.length_take]; rfl)) ?_; (with_reducible refine (knelllaw11_speaks.calls  t139 _ (Go.Proofs.YthniclbmpeklmaaDoor.Ev.Tab.below HTAB_.out (by repeat (first | (with_reducible first | exact HB.out | apply below_alloc | apply pw_below_drewN | apply below_drew1) | exact HB.out))) A23.out).mono ?_); rintro e w24 ⟨rfl, hb⟩; refine ⟨_, rfl, ?_⟩; have n0_ := Aside0.mk (blk_below (g := gb134) (o := .cells #[.int .i64 a0_0, .int .i64 a0_1, .int .i64 a0_2, .int .i64 a0_3, .int .i64 a0_4, .int .i64 a0_5, .int .i64 a0_6, .int .i64 a0_7, .int .i64 a0_8, .int .i64 a0_9, .bool a0_10, .int .i64 a0_11] 25 (0, 0)) (by (with_reducible repeat (first | refine blk_drewN ?_ _ | refine blk_drew ?_ | refine blk_alloc ?_ _)); exact BK134.out) hb); have n1_ := Aside0.mk (blk_below (g := gb135) (o := .cells #[.int .i64 a1_0, .int .i64 a1_1, .int .i64 a1_2, .int .i64 a1_3, .int .i64 a1_4, .int .i64 a1_5, .int .i64 a1_6, .int .i64 a1_7, .int .i64 a1_8, .int .i64 a1_9, .bool a1_10, .int .i64 a1_11] 25 (0, 0)) (by (with_reducible repeat (first | refine blk_drewN ?_ _ | refine blk_drew ?_ | refine blk_alloc ?_ _)); exact BK135.out) hb); have n2_ := Aside0.mk (below_step (by repeat (first | (with_reducible first | exact HB.out | apply below_alloc | apply pw_below_drewN | apply below_drew1 | refine below_set ?_ GE134.out | refine below_set ?_ GE135.out) | exact HB.out)) hb); clear BK134; clear BK135; clear HB; have BK134 := n0_; have BK135 := n1_; have HB := n2_; clear n0_ n1_ n2_; (try clear hb); (try clear hb2); (try clear hk); (try clear hi)))
        go_ret
        exact ⟨by first | rfl | (simp [errW_none, errW_some] <;> rfl) | (simp [*, errW_none, errW_some] <;> rfl), by repeat (first | (with_reducible first | exact HB.out | apply below_alloc | apply pw_below_drewN | apply below_drew1 | refine below_set ?_ GE134.out | refine below_set ?_ GE135.out) | exact HB.out)⟩
      · replace c22 := Bool.eq_false_iff.mpr c22
        subst c22
        have H1 : ((knelllaw11_Of.f a0_0 a0_1 a0_2 a0_3 a0_4 a0_5 a0_6 a0_7 a0_8 a0_9 a0_10 a0_11).bind fun bt140 => ((event_Line.f bt140.1 bt140.2.1 bt140.2.2.1 bt140.2.2.2.1 bt140.2.2.2.2.1 bt140.2.2.2.2.2.1 bt140.2.2.2.2.2.2.1 bt140.2.2.2.2.2.2.2.1 bt140.2.2.2.2.2.2.2.2.1 bt140.2.2.2.2.2.2.2.2.2.1 bt140.2.2.2.2.2.2.2.2.2.2.1 bt140.2.2.2.2.2.2.2.2.2.2.2).bind fun t152 => ((knelllaw11_Of.f a1_0 a1_1 a1_2 a1_3 a1_4 a1_5 a1_6 a1_7 a1_8 a1_9 a1_10 a1_11).bind fun bt153 => ((event_Line.f bt153.1 bt153.2.1 bt153.2.2.1 bt153.2.2.2.1 bt153.2.2.2.2.1 bt153.2.2.2.2.2.1 bt153.2.2.2.2.2.2.1 bt153.2.2.2.2.2.2.2.1 bt153.2.2.2.2.2.2.2.2.1 bt153.2.2.2.2.2.2.2.2.2.1 bt153.2.2.2.2.2.2.2.2.2.2.1 bt153.2.2.2.2.2.2.2.2.2.2.2).bind fun t165 => (some ((t152.toList == t165.toList) == (a0_0 == a1_0 && (a0_1 == a1_1 && (a0_2 == a1_2 && ((a0_3 == a1_3 && (a0_4 == a1_4)) && ((a0_5 == a1_5 && (a0_6 == a1_6)) && (a0_7 == a1_7 && (a0_8 == a1_8 && (a0_9 == a1_9 && (a0_10 == a1_10 && (a0_11 == a1_11)))))))))))))))) = some r := by rw [if_neg (show ¬ (false = true) by decide)] at H; exact H
        clear H
        have H := H1
        clear H1
        replace H := Option.bind_eq_some_iff.mp H
        obtain ⟨⟨t140, t141, t142, t143, t144, t145, t146, t147, t148, t149, t150, t151⟩, A250, H⟩ := H
        replace H : ((event_Line.f t140 t141 t142 t143 t144 t145 t146 t147 t148 t149 t150 t151).bind fun t152 => ((knelllaw11_Of.f a1_0 a1_1 a1_2 a1_3 a1_4 a1_5 a1_6 a1_7 a1_8 a1_9 a1_10 a1_11).bind fun bt153 => ((event_Line.f bt153.1 bt153.2.1 bt153.2.2.1 bt153.2.2.2.1 bt153.2.2.2.2.1 bt153.2.2.2.2.2.1 bt153.2.2.2.2.2.2.1 bt153.2.2.2.2.2.2.2.1 bt153.2.2.2.2.2.2.2.2.1 bt153.2.2.2.2.2.2.2.2.2.1 bt153.2.2.2.2.2.2.2.2.2.2.1 bt153.2.2.2.2.2.2.2.2.2.2.2).bind fun t165 => (some ((t152.toList == t165.toList) == (a0_0 == a1_0 && (a0_1 == a1_1 && (a0_2 == a1_2 && ((a0_3 == a1_3 && (a0_4 == a1_4)) && ((a0_5 == a1_5 && (a0_6 == a1_6)) && (a0_7 == a1_7 && (a0_8 == a1_8 && (a0_9 == a1_9 && (a0_10 == a1_10 && (a0_11 == a1_11))))))))))))))) = some r := H
        have A25 := Aside0.mk A250
        clear A250
        replace H := Option.bind_eq_some_iff.mp H
        obtain ⟨t152, A260, H⟩ := H
        replace H : ((knelllaw11_Of.f a1_0 a1_1 a1_2 a1_3 a1_4 a1_5 a1_6 a1_7 a1_8 a1_9 a1_10 a1_11).bind fun bt153 => ((event_Line.f bt153.1 bt153.2.1 bt153.2.2.1 bt153.2.2.2.1 bt153.2.2.2.2.1 bt153.2.2.2.2.2.1 bt153.2.2.2.2.2.2.1 bt153.2.2.2.2.2.2.2.1 bt153.2.2.2.2.2.2.2.2.1 bt153.2.2.2.2.2.2.2.2.2.1 bt153.2.2.2.2.2.2.2.2.2.2.1 bt153.2.2.2.2.2.2.2.2.2.2.2).bind fun t165 => (some ((t152.toList == t165.toList) == (a0_0 == a1_0 && (a0_1 == a1_1 && (a0_2 == a1_2 && ((a0_3 == a1_3 && (a0_4 == a1_4)) && ((a0_5 == a1_5 && (a0_6 == a1_6)) && (a0_7 == a1_7 && (a0_8 == a1_8 && (a0_9 == a1_9 && (a0_10 == a1_10 && (a0_11 == a1_11)))))))))))))) = some r := H
        have A26 := Aside0.mk A260
        clear A260
        replace H := Option.bind_eq_some_iff.mp H
        obtain ⟨⟨t153, t154, t155, t156, t157, t158, t159, t160, t161, t162, t163, t164⟩, A270, H⟩ := H
        replace H : ((event_Line.f t153 t154 t155 t156 t157 t158 t159 t160 t161 t162 t163 t164).bind fun t165 => (some ((t152.toList == t165.toList) == (a0_0 == a1_0 && (a0_1 == a1_1 && (a0_2 == a1_2 && ((a0_3 == a1_3 && (a0_4 == a1_4)) && ((a0_5 == a1_5 && (a0_6 == a1_6)) && (a0_7 == a1_7 && (a0_8 == a1_8 && (a0_9 == a1_9 && (a0_10 == a1_10 && (a0_11 == a1_11))))))))))))) = some r := H
        have A27 := Aside0.mk A270
        clear A270
        replace H := Option.bind_eq_some_iff.mp H
        obtain ⟨t165, A280, H⟩ := H
        replace H : (some ((t152.toList == t165.toList) == (a0_0 == a1_0 && (a0_1 == a1_1 && (a0_2 == a1_2 && ((a0_3 == a1_3 && (a0_4 == a1_4)) && ((a0_5 == a1_5 && (a0_6 == a1_6)) && (a0_7 == a1_7 && (a0_8 == a1_8 && (a0_9 == a1_9 && (a0_10 == a1_10 && (a0_11 == a1_11)))))))))))) = some r := H
        have A28 := Aside0.mk A280
        clear A280
        obtain rfl := Option.some.inj H
        try go_wp2
        have n0_ := Aside0.mk (blk_drew BK134.out)
        have n1_ := Aside0.mk (blk_drew BK135.out)
        have n2_ := Aside0.mk (below_drew1 HB.out)
        clear BK134
        clear BK135
        clear HB
        have BK134 := n0_
        have BK135 := n1_
        have HB := n2_
        clear n0_ n1_ n2_
        refine start_ (n := 12) (S := fun w' => w'.cell? ⟨gb134, 0, none⟩ = some (.int .i64 a0_0) ∧ w'.cell? ⟨gb134, 1, none⟩ = some (.int .i64 a0_1) ∧ w'.cell? ⟨gb134, 2, none⟩ = some (.int .i64 a0_2) ∧ w'.cell? ⟨gb134, 3, none⟩ = some (.int .i64 a0_3) ∧ w'.cell? ⟨gb134, 4, none⟩ = some (.int .i64 a0_4) ∧ w'.cell? ⟨gb134, 5, none⟩ = some (.int .i64 a0_5) ∧ w'.cell? ⟨gb134, 6, none⟩ = some (.int .i64 a0_6) ∧ w'.cell? ⟨gb134, 7, none⟩ = some (.int .i64 a0_7) ∧ w'.cell? ⟨gb134, 8, none⟩ = some (.int .i64 a0_8) ∧ w'.cell? ⟨gb134, 9, none⟩ = some (.int .i64 a0_9) ∧ w'.cell? ⟨gb134, 10, none⟩ = some (.bool a0_10) ∧ w'.cell? ⟨gb134, 11, none⟩ = some (.int .i64 a0_11) ∧ w'.cell? ⟨gb135, 0, none⟩ = some (.int .i64 a1_0) ∧ w'.cell? ⟨gb135, 1, none⟩ = some (.int .i64 a1_1) ∧ w'.cell? ⟨gb135, 2, none⟩ = some (.int .i64 a1_2) ∧ w'.cell? ⟨gb135, 3, none⟩ = some (.int .i64 a1_3) ∧ w'.cell? ⟨gb135, 4, none⟩ = some (.int .i64 a1_4) ∧ w'.cell? ⟨gb135, 5, none⟩ = some (.int .i64 a1_5) ∧ w'.cell? ⟨gb135, 6, none⟩ = some (.int .i64 a1_6) ∧ w'.cell? ⟨gb135, 7, none⟩ = some (.int .i64 a1_7) ∧ w'.cell? ⟨gb135, 8, none⟩ = some (.int .i64 a1_8) ∧ w'.cell? ⟨gb135, 9, none⟩ = some (.int .i64 a1_9) ∧ w'.cell? ⟨gb135, 10, none⟩ = some (.bool a1_10) ∧ w'.cell? ⟨gb135, 11, none⟩ = some (.int .i64 a1_11)) (ds := []) #[false, false, false, false, false, false, false, false, false, false, false, false] (by kernel_rfl) rfl rfl ⟨(blk_cell BK134.out 0).trans rfl, (blk_cell BK134.out 1).trans rfl, (blk_cell BK134.out 2).trans rfl, (blk_cell BK134.out 3).trans rfl, (blk_cell BK134.out 4).trans rfl, (blk_cell BK134.out 5).trans rfl, (blk_cell BK134.out 6).trans rfl, (blk_cell BK134.out 7).trans rfl, (blk_cell BK134.out 8).trans rfl, (blk_cell BK134.out 9).trans rfl, (blk_cell BK134.out 10).trans rfl, (blk_cell BK134.out 11).trans rfl, (blk_cell BK135.out 0).trans rfl, (blk_cell BK135.out 1).trans rfl, (blk_cell BK135.out 2).trans rfl, (blk_cell BK135.out 3).trans rfl, (blk_cell BK135.out 4).trans rfl, (blk_cell BK135.out 5).trans rfl, (blk_cell BK135.out 6).trans rfl, (blk_cell BK135.out 7).trans rfl, (blk_cell BK135.out 8).trans rfl, (blk_cell BK135.out 9).trans rfl, (blk_cell BK135.out 10).trans rfl, (blk_cell BK135.out 11).trans rfl⟩ (fun hHeld => ?_); refine with_tabW knelllaw11_EventUnlike.tab3 knelllaw11_EventUnlike.bits3 (fun HT_ HW_ => ?_)
        generalize wc.drew = w29 at BK134 BK135 HB hHeld ⊢
        refine take_ (i := 0) (N := some 18) (v := ?_) (a' := ?_) #[true, false, false, false, false, false, false, false, false, false, false, false] rfl rfl (take_ofW HT_.out HW_.out (by kernel_rfl)) (fun _ _ _ h => h) (Or.inl ⟨by rfl, ?_⟩) hHeld ?_ ?_
        rotate_left
        · rintro w' ⟨s0, s1, s2, s3, s4, s5, s6, s7, s8, s9, s10, s11, s12, s13, s14, s15, s16, s17, s18, s19, s20, s21, s22, s23⟩
          go_simp
          with_reducible rfl
        rotate_left
        · simp only [Act.put, List.setIfInBounds_toArray, List.set_cons_zero, List.set_cons_succ, i64_w, i32_w]
          rfl
        refine take_ (i := 3) (N := some 21) (v := ?_) (a' := ?_) #[true, false, false, true, false, false, false, false, false, false, false, false] rfl rfl (take_ofW HT_.out HW_.out (by kernel_rfl)) (fun _ _ _ h => h) (Or.inl ⟨by rfl, ?_⟩) hHeld ?_ ?_
        rotate_left
        · rintro w' ⟨s0, s1, s2, s3, s4, s5, s6, s7, s8, s9, s10, s11, s12, s13, s14, s15, s16, s17, s18, s19, s20, s21, s22, s23⟩
          go_simp
          with_reducible rfl
        rotate_left
        · simp only [Act.put, List.setIfInBounds_toArray, List.set_cons_zero, List.set_cons_succ, i64_w, i32_w]
          rfl
        refine take_ (i := 7) (N := some 25) (v := ?_) (a' := ?_) #[true, false, false, true, false, false, false, true, false, false, false, false] rfl rfl (take_ofW HT_.out HW_.out (by kernel_rfl)) (fun _ _ _ h => h) (Or.inl ⟨by rfl, ?_⟩) hHeld ?_ ?_
        rotate_left
        · rintro w' ⟨s0, s1, s2, s3, s4, s5, s6, s7, s8, s9, s10, s11, s12, s13, s14, s15, s16, s17, s18, s19, s20, s21, s22, s23⟩
          go_simp
          with_reducible rfl
        rotate_left
        · simp only [Act.put, List.setIfInBounds_toArray, List.set_cons_zero, List.set_cons_succ, i64_w, i32_w]
          rfl
        refine take_ (i := 8) (N := some 26) (v := ?_) (a' := ?_) #[true, false, false, true, false, false, false, true, true, false, false, false] rfl rfl (take_ofW HT_.out HW_.out (by kernel_rfl)) (fun _ _ _ h => h) (Or.inl ⟨by rfl, ?_⟩) hHeld ?_ ?_
        rotate_left
        · rintro w' ⟨s0, s1, s2, s3, s4, s5, s6, s7, s8, s9, s10, s11, s12, s13, s14, s15, s16, s17, s18, s19, s20, s21, s22, s23⟩
          go_simp
          with_reducible rfl
        rotate_left
        · simp only [Act.put, List.setIfInBounds_toArray, List.set_cons_zero, List.set_cons_succ, i64_w, i32_w]
          rfl
        refine pure_ (i := 9) (N := some 27) (v := ?_) (a' := ?_) #[true, false, false, true, false, false, false, true, true, true, false, false] rfl rfl (any_of HT_.out (by kernel_rfl)) (fun _ _ _ h => h) (Or.inl ⟨by rfl, ?_⟩) ?_ ?_
        rotate_left
        · intro w'
          go_simp
          with_reducible rfl
        rotate_left
        · simp only [Act.put, List.setIfInBounds_toArray, List.set_cons_zero, List.set_cons_succ, i64_w, i32_w]
          rfl
        refine one_ (i := 1) (N := some 19) #[true, true, false, true, false, false, false, true, true, true, false, false] rfl rfl (one_of HT_.out (by kernel_rfl)) (by decide) (fun K hK => ?_)
        refine goes_ Tryd.func9 (by kernel_rfl) rfl #[.agg #[.int .i64 a0_0, .int .i64 a0_1, .int .i64 a0_2, .int .i64 a0_3, .int .i64 a0_4, .int .i64 a0_5, .int .i64 a0_6, .int .i64 a0_7, .int .i64 a0_8, .int .i64 a0_9, .bool a0_10, .int .i64 a0_11]] (by rfl) rfl rfl (by (try simp only [List.map_toArray, List.map_cons, List.map_nil]); first | done | rfl | (simp only [List.length_drop, List.length_take]; rfl)) ?_
        with_reducible refine (knelllaw11_Of.calls a0_0 a0_1 a0_2 a0_3 a0_4 a0_5 a0_6 a0_7 a0_8 a0_9 a0_10 a0_11 t140 t141 t142 t143 t144 t145 t146 t147 t148 t149 t150 t151 _ A25.out).mono ?_
        rintro e w30 ⟨rfl, hb⟩
        refine ⟨_, rfl, ?_⟩
        have n0_ := Aside0.mk (blk_below (g := gb134) (o := .cells #[.int .i64 a0_0, .int .i64 a0_1, .int .i64 a0_2, .int .i64 a0_3, .int .i64 a0_4, .int .i64 a0_5, .int .i64 a0_6, .int .i64 a0_7, .int .i64 a0_8, .int .i64 a0_9, .bool a0_10, .int .i64 a0_11] 25 (0, 0)) (by (with_reducible repeat (first | refine blk_drewN ?_ _ | refine blk_drew ?_ | refine blk_alloc ?_ _)); exact BK134.out) hb)
        have n1_ := Aside0.mk (blk_below (g := gb135) (o := .cells #[.int .i64 a1_0, .int .i64 a1_1, .int .i64 a1_2, .int .i64 a1_3, .int .i64 a1_4, .int .i64 a1_5, .int .i64 a1_6, .int .i64 a1_7, .int .i64 a1_8, .int .i64 a1_9, .bool a1_10, .int .i64 a1_11] 25 (0, 0)) (by (with_reducible repeat (first | refine blk_drewN ?_ _ | refine blk_drew ?_ | refine blk_alloc ?_ _)); exact BK135.out) hb)
        have n2_ := Aside0.mk (below_step (by repeat (first | (with_reducible first | exact HB.out | apply below_alloc | apply pw_below_drewN | apply below_drew1 | refine below_set ?_ GE134.out | refine below_set ?_ GE135.out) | exact HB.out)) hb)
        clear BK134
        clear BK135
        clear HB
        have BK134 := n0_
        have BK135 := n1_
        have HB := n2_
        clear n0_ n1_ n2_
        (try clear hb)
        (try clear hb2)
        (try clear hk)
        (try clear hi)
        refine hK.out _ _ ⟨(blk_cell BK134.out 0).trans rfl, (blk_cell BK134.out 1).trans rfl, (blk_cell BK134.out 2).trans rfl, (blk_cell BK134.out 3).trans rfl, (blk_cell BK134.out 4).trans rfl, (blk_cell BK134.out 5).trans rfl, (blk_cell BK134.out 6).trans rfl, (blk_cell BK134.out 7).trans rfl, (blk_cell BK134.out 8).trans rfl, (blk_cell BK134.out 9).trans rfl, (blk_cell BK134.out 10).trans rfl, (blk_cell BK134.out 11).trans rfl, (blk_cell BK135.out 0).trans rfl, (blk_cell BK135.out 1).trans rfl, (blk_cell BK135.out 2).trans rfl, (blk_cell BK135.out 3).trans rfl, (blk_cell BK135.out 4).trans rfl, (blk_cell BK135.out 5).trans rfl, (blk_cell BK135.out 6).trans rfl, (blk_cell BK135.out 7).trans rfl, (blk_cell BK135.out 8).trans rfl, (blk_cell BK135.out 9).trans rfl, (blk_cell BK135.out 10).trans rfl, (blk_cell BK135.out 11).trans rfl⟩ (fun hHeld => ?_)
        clear hK K
        refine norm_ (a' := ?_) ?_ ?_
        rotate_left
        · show Act.put _ (some 19) _ = _
          simp only [Act.put, List.setIfInBounds_toArray, List.set_cons_zero, List.set_cons_succ, i64_w, i32_w]
          rfl
        refine one_ (i := 2) (N := some 20) #[true, true, true, true, false, false, false, true, true, true, false, false] rfl rfl (one_of HT_.out (by kernel_rfl)) (by decide) (fun K hK => ?_)
        refine goes_ Tryd.func11 (by kernel_rfl) rfl #[.agg #[.int .i64 t140, .int .i64 t141, .int .i64 t142, .int .i64 t143, .int .i64 t144, .int .i64 t145, .int .i64 t146, .int .i64 t147, .int .i64 t148, .int .i64 t149, .bool t150, .int .i64 t151]] (by rfl) rfl rfl (by (try simp only [List.map_toArray, List.map_cons, List.map_nil]); first | done | rfl | (simp only [List.length_drop, List.length_take]; rfl)) ?_
        with_reducible refine (event_Line.calls t140 t141 t142 t143 t144 t145 t146 t147 t148 t149 t150 t151 t152 _ (Go.Proofs.YthniclbmpeklmaaDoor.Ev.Tab.below HTAB_.out (by repeat (first | (with_reducible first | exact HB.out | apply below_alloc | apply pw_below_drewN | apply below_drew1) | exact HB.out))) A26.out).mono ?_
        rintro e w31 ⟨rfl, hb⟩
        refine ⟨_, rfl, ?_⟩
        have n0_ := Aside0.mk (blk_below (g := gb134) (o := .cells #[.int .i64 a0_0, .int .i64 a0_1, .int .i64 a0_2, .int .i64 a0_3, .int .i64 a0_4, .int .i64 a0_5, .int .i64 a0_6, .int .i64 a0_7, .int .i64 a0_8, .int .i64 a0_9, .bool a0_10, .int .i64 a0_11] 25 (0, 0)) (by (with_reducible repeat (first | refine blk_drewN ?_ _ | refine blk_drew ?_ | refine blk_alloc ?_ _)); exact BK134.out) hb)
        have n1_ := Aside0.mk (blk_below (g := gb135) (o := .cells #[.int .i64 a1_0, .int .i64 a1_1, .int .i64 a1_2, .int .i64 a1_3, .int .i64 a1_4, .int .i64 a1_5, .int .i64 a1_6, .int .i64 a1_7, .int .i64 a1_8, .int .i64 a1_9, .bool a1_10, .int .i64 a1_11] 25 (0, 0)) (by (with_reducible repeat (first | refine blk_drewN ?_ _ | refine blk_drew ?_ | refine blk_alloc ?_ _)); exact BK135.out) hb)
        have n2_ := Aside0.mk (below_step (by repeat (first | (with_reducible first | exact HB.out | apply below_alloc | apply pw_below_drewN | apply below_drew1 | refine below_set ?_ GE134.out | refine below_set ?_ GE135.out) | exact HB.out)) hb)
        clear BK134
        clear BK135
        clear HB
        have BK134 := n0_
        have BK135 := n1_
        have HB := n2_
        clear n0_ n1_ n2_
        (try clear hb)
        (try clear hb2)
        (try clear hk)
        (try clear hi)
        refine hK.out _ _ ⟨(blk_cell BK134.out 0).trans rfl, (blk_cell BK134.out 1).trans rfl, (blk_cell BK134.out 2).trans rfl, (blk_cell BK134.out 3).trans rfl, (blk_cell BK134.out 4).trans rfl, (blk_cell BK134.out 5).trans rfl, (blk_cell BK134.out 6).trans rfl, (blk_cell BK134.out 7).trans rfl, (blk_cell BK134.out 8).trans rfl, (blk_cell BK134.out 9).trans rfl, (blk_cell BK134.out 10).trans rfl, (blk_cell BK134.out 11).trans rfl, (blk_cell BK135.out 0).trans rfl, (blk_cell BK135.out 1).trans rfl, (blk_cell BK135.out 2).trans rfl, (blk_cell BK135.out 3).trans rfl, (blk_cell BK135.out 4).trans rfl, (blk_cell BK135.out 5).trans rfl, (blk_cell BK135.out 6).trans rfl, (blk_cell BK135.out 7).trans rfl, (blk_cell BK135.out 8).trans rfl, (blk_cell BK135.out 9).trans rfl, (blk_cell BK135.out 10).trans rfl, (blk_cell BK135.out 11).trans rfl⟩ (fun hHeld => ?_)
        clear hK K
        refine norm_ (a' := ?_) ?_ ?_
        rotate_left
        · show Act.put _ (some 20) _ = _
          simp only [Act.put, List.setIfInBounds_toArray, List.set_cons_zero, List.set_cons_succ, i64_w, i32_w]
          rfl
        refine one_ (i := 4) (N := some 22) #[true, true, true, true, true, false, false, true, true, true, false, false] rfl rfl (one_of HT_.out (by kernel_rfl)) (by decide) (fun K hK => ?_)
        refine goes_ Tryd.func9 (by kernel_rfl) rfl #[.agg #[.int .i64 a1_0, .int .i64 a1_1, .int .i64 a1_2, .int .i64 a1_3, .int .i64 a1_4, .int .i64 a1_5, .int .i64 a1_6, .int .i64 a1_7, .int .i64 a1_8, .int .i64 a1_9, .bool a1_10, .int .i64 a1_11]] (by rfl) rfl rfl (by (try simp only [List.map_toArray, List.map_cons, List.map_nil]); first | done | rfl | (simp only [List.length_drop, List.length_take]; rfl)) ?_
        with_reducible refine (knelllaw11_Of.calls a1_0 a1_1 a1_2 a1_3 a1_4 a1_5 a1_6 a1_7 a1_8 a1_9 a1_10 a1_11 t153 t154 t155 t156 t157 t158 t159 t160 t161 t162 t163 t164 _ A27.out).mono ?_
        rintro e w32 ⟨rfl, hb⟩
        refine ⟨_, rfl, ?_⟩
        have n0_ := Aside0.mk (blk_below (g := gb134) (o := .cells #[.int .i64 a0_0, .int .i64 a0_1, .int .i64 a0_2, .int .i64 a0_3, .int .i64 a0_4, .int .i64 a0_5, .int .i64 a0_6, .int .i64 a0_7, .int .i64 a0_8, .int .i64 a0_9, .bool a0_10, .int .i64 a0_11] 25 (0, 0)) (by (with_reducible repeat (first | refine blk_drewN ?_ _ | refine blk_drew ?_ | refine blk_alloc ?_ _)); exact BK134.out) hb)
        have n1_ := Aside0.mk (blk_below (g := gb135) (o := .cells #[.int .i64 a1_0, .int .i64 a1_1, .int .i64 a1_2, .int .i64 a1_3, .int .i64 a1_4, .int .i64 a1_5, .int .i64 a1_6, .int .i64 a1_7, .int .i64 a1_8, .int .i64 a1_9, .bool a1_10, .int .i64 a1_11] 25 (0, 0)) (by (with_reducible repeat (first | refine blk_drewN ?_ _ | refine blk_drew ?_ | refine blk_alloc ?_ _)); exact BK135.out) hb)
        have n2_ := Aside0.mk (below_step (by repeat (first | (with_reducible first | exact HB.out | apply below_alloc | apply pw_below_drewN | apply below_drew1 | refine below_set ?_ GE134.out | refine below_set ?_ GE135.out) | exact HB.out)) hb)
        clear BK134
        clear BK135
        clear HB
        have BK134 := n0_
        have BK135 := n1_
        have HB := n2_
        clear n0_ n1_ n2_
        (try clear hb)
        (try clear hb2)
        (try clear hk)
        (try clear hi)
        refine hK.out _ _ ⟨(blk_cell BK134.out 0).trans rfl, (blk_cell BK134.out 1).trans rfl, (blk_cell BK134.out 2).trans rfl, (blk_cell BK134.out 3).trans rfl, (blk_cell BK134.out 4).trans rfl, (blk_cell BK134.out 5).trans rfl, (blk_cell BK134.out 6).trans rfl, (blk_cell BK134.out 7).trans rfl, (blk_cell BK134.out 8).trans rfl, (blk_cell BK134.out 9).trans rfl, (blk_cell BK134.out 10).trans rfl, (blk_cell BK134.out 11).trans rfl, (blk_cell BK135.out 0).trans rfl, (blk_cell BK135.out 1).trans rfl, (blk_cell BK135.out 2).trans rfl, (blk_cell BK135.out 3).trans rfl, (blk_cell BK135.out 4).trans rfl, (blk_cell BK135.out 5).trans rfl, (blk_cell BK135.out 6).trans rfl, (blk_cell BK135.out 7).trans rfl, (blk_cell BK135.out 8).trans rfl, (blk_cell BK135.out 9).trans rfl, (blk_cell BK135.out 10).trans rfl, (blk_cell BK135.out 11).trans rfl⟩ (fun hHeld => ?_)
        clear hK K
        refine norm_ (a' := ?_) ?_ ?_
        rotate_left
        · show Act.put _ (some 22) _ = _
          simp only [Act.put, List.setIfInBounds_toArray, List.set_cons_zero, List.set_cons_succ, i64_w, i32_w]
          rfl
        refine one_ (i := 5) (N := some 23) #[true, true, true, true, true, true, false, true, true, true, false, false] rfl rfl (one_of HT_.out (by kernel_rfl)) (by decide) (fun K hK => ?_)
        refine goes_ Tryd.func11 (by kernel_rfl) rfl #[.agg #[.int .i64 t153, .int .i64 t154, .int .i64 t155, .int .i64 t156, .int .i64 t157, .int .i64 t158, .int .i64 t159, .int .i64 t160, .int .i64 t161, .int .i64 t162, .bool t163, .int .i64 t164]] (by rfl) rfl rfl (by (try simp only [List.map_toArray, List.map_cons, List.map_nil]); first | done | rfl | (simp only [List.length_drop, List.length_take]; rfl)) ?_
        with_reducible refine (event_Line.calls t153 t154 t155 t156 t157 t158 t159 t160 t161 t162 t163 t164 t165 _ (Go.Proofs.YthniclbmpeklmaaDoor.Ev.Tab.below HTAB_.out (by repeat (first | (with_reducible first | exact HB.out | apply below_alloc | apply pw_below_drewN | apply below_drew1) | exact HB.out))) A28.out).mono ?_
        rintro e w33 ⟨rfl, hb⟩
        refine ⟨_, rfl, ?_⟩
        have n0_ := Aside0.mk (blk_below (g := gb134) (o := .cells #[.int .i64 a0_0, .int .i64 a0_1, .int .i64 a0_2, .int .i64 a0_3, .int .i64 a0_4, .int .i64 a0_5, .int .i64 a0_6, .int .i64 a0_7, .int .i64 a0_8, .int .i64 a0_9, .bool a0_10, .int .i64 a0_11] 25 (0, 0)) (by (with_reducible repeat (first | refine blk_drewN ?_ _ | refine blk_drew ?_ | refine blk_alloc ?_ _)); exact BK134.out) hb)
        have n1_ := Aside0.mk (blk_below (g := gb135) (o := .cells #[.int .i64 a1_0, .int .i64 a1_1, .int .i64 a1_2, .int .i64 a1_3, .int .i64 a1_4, .int .i64 a1_5, .int .i64 a1_6, .int .i64 a1_7, .int .i64 a1_8, .int .i64 a1_9, .bool a1_10, .int .i64 a1_11] 25 (0, 0)) (by (with_reducible repeat (first | refine blk_drewN ?_ _ | refine blk_drew ?_ | refine blk_alloc ?_ _)); exact BK135.out) hb)
        have n2_ := Aside0.mk (below_step (by repeat (first | (with_reducible first | exact HB.out | apply below_alloc | apply pw_below_drewN | apply below_drew1 | refine below_set ?_ GE134.out | refine below_set ?_ GE135.out) | exact HB.out)) hb)
        clear BK134
        clear BK135
        clear HB
        have BK134 := n0_
        have BK135 := n1_
        have HB := n2_
        clear n0_ n1_ n2_
        (try clear hb)
        (try clear hb2)
        (try clear hk)
        (try clear hi)
        refine hK.out _ _ ⟨(blk_cell BK134.out 0).trans rfl, (blk_cell BK134.out 1).trans rfl, (blk_cell BK134.out 2).trans rfl, (blk_cell BK134.out 3).trans rfl, (blk_cell BK134.out 4).trans rfl, (blk_cell BK134.out 5).trans rfl, (blk_cell BK134.out 6).trans rfl, (blk_cell BK134.out 7).trans rfl, (blk_cell BK134.out 8).trans rfl, (blk_cell BK134.out 9).trans rfl, (blk_cell BK134.out 10).trans rfl, (blk_cell BK134.out 11).trans rfl, (blk_cell BK135.out 0).trans rfl, (blk_cell BK135.out 1).trans rfl, (blk_cell BK135.out 2).trans rfl, (blk_cell BK135.out 3).trans rfl, (blk_cell BK135.out 4).trans rfl, (blk_cell BK135.out 5).trans rfl, (blk_cell BK135.out 6).trans rfl, (blk_cell BK135.out 7).trans rfl, (blk_cell BK135.out 8).trans rfl, (blk_cell BK135.out 9).trans rfl, (blk_cell BK135.out 10).trans rfl, (blk_cell BK135.out 11).trans rfl⟩ (fun hHeld => ?_)
        clear hK K
        refine norm_ (a' := ?_) ?_ ?_
        rotate_left
        · show Act.put _ (some 23) _ = _
          simp only [Act.put, List.setIfInBounds_toArray, List.set_cons_zero, List.set_cons_succ, i64_w, i32_w]
          rfl
        refine pure_ (i := 6) (N := some 24) (v := ?_) (a' := ?_) #[true, true, true, true, true, true, true, true, true, true, false, false] rfl rfl (any_of HT_.out (by kernel_rfl)) (fun _ _ _ h => h) (Or.inl ⟨by rfl, ?_⟩) ?_ ?_
        rotate_left
        · intro w'
          go_simp
          with_reducible rfl
        rotate_left
        · simp only [Act.put, List.setIfInBounds_toArray, List.set_cons_zero, List.set_cons_succ, i64_w, i32_w]
          rfl
        refine pure_ (i := 10) (N := some 28) (v := ?_) (a' := ?_) #[true, true, true, true, true, true, true, true, true, true, true, false] rfl rfl (any_of HT_.out (by kernel_rfl)) (fun _ _ _ h => h) (Or.inl ⟨by rfl, ?_⟩) ?_ ?_
        rotate_left
        · intro w'
          go_simp
          with_reducible rfl
        rotate_left
        · simp only [Act.put, List.setIfInBounds_toArray, List.set_cons_zero, List.set_cons_succ, i64_w, i32_w]
          rfl
        refine pure_ (i := 11) (N := some 4) (v := ?_) (a' := ?_) #[true, true, true, true, true, true, true, true, true, true, true, true] rfl rfl (any_of HT_.out (by kernel_rfl)) (fun _ _ _ h => h) (Or.inl ⟨by rfl, ?_⟩) ?_ ?_
        rotate_left
        · intro w'
          go_simp
          with_reducible rfl
        rotate_left
        · simp only [Act.put, List.setIfInBounds_toArray, List.set_cons_zero, List.set_cons_succ, i64_w, i32_w]
          rfl
        refine done_ (done_of HT_.out (by kernel_rfl)) ?_
        try go_wp2
        go_ret
        exact ⟨by first | rfl | (simp [errW_none, errW_some] <;> rfl) | (simp [*, errW_none, errW_some] <;> rfl), by repeat (first | (with_reducible first | exact HB.out | apply below_alloc | apply pw_below_drewN | apply below_drew1 | refine below_set ?_ GE134.out | refine below_set ?_ GE135.out) | exact HB.out)⟩

end Go.Proofs.YthniclbmpeklmaaDoor.KEv
namespace Go.Proofs.YthniclbmpeklmaaDoor.KEv
open Go.RowKit Go.Proofs.YthniclbmpeklmaaDoorW.PrintWords Go.Proofs.YthniclbmpeklmaaDoorW.PrintLast Go.Proofs.YthniclbmpeklmaaDoorW.PrintMore
attribute [local go_sem] max2_int min2_int max_two min_two max_three min_three max_four min_four   -- for this text's walks alone
set_option linter.unusedVariables false
set_option linter.unusedSimpArgs false

/-! ### knelllaw11_EventWords: function 5 -/
mutual
def knelllaw11_EventWords.j0 : Nat → ByteArray → Bool → Int → Int → Int → Int → Int → Int → Int → Int → Int → Int → Bool → Int → Option (Bool)
  | 0, _, _, _, _, _, _, _, _, _, _, _, _, _, _ => none
  | k + 1, x3, x15, x167000, x167001, x167002, x167003, x167004, x167005, x167006, x167007, x167008, x167009, x167010, x167011 => if x15 = true then ((knelllaw11_speaks.f).bind fun t182 => (if t182 = true then (some (x3.toList == ([] : List UInt8))) else (some false))) else (knelllaw11_EventWords.l0 k x3 (x3.size : Int) 0 x167000 x167001 x167002 x167003 x167004 x167005 x167006 x167007 x167008 x167009 x167010 x167011)
def knelllaw11_EventWords.l0 : Nat → ByteArray → Int → Int → Int → Int → Int → Int → Int → Int → Int → Int → Int → Int → Bool → Int → Option (Bool)
  | 0, _, _, _, _, _, _, _, _, _, _, _, _, _, _, _ => none
  | k + 1, x3, x22, x23, x167000, x167001, x167002, x167003, x167004, x167005, x167006, x167007, x167008, x167009, x167010, x167011 => if x23 < x22 then (if 0 ≤ x23 then (if x23 < (x3.size : Int) then (if (bt x3 x23) = 10 then (some false) else (if (bt x3 x23) = 32 then (if x23 = 0 then (some false) else (if x23 = (wrap64 ((x3.size : Int) - 1)) then (some false) else (if 0 ≤ (wrap64 (x23 + 1)) then (if (wrap64 (x23 + 1)) < (x3.size : Int) then (if (bt x3 (wrap64 (x23 + 1))) = 32 then (some false) else (knelllaw11_EventWords.l0 k x3 x22 (wrap64 (x23 + 1)) x167000 x167001 x167002 x167003 x167004 x167005 x167006 x167007 x167008 x167009 x167010 x167011)) else (none)) else (none)))) else (knelllaw11_EventWords.l0 k x3 x22 (wrap64 (x23 + 1)) x167000 x167001 x167002 x167003 x167004 x167005 x167006 x167007 x167008 x167009 x167010 x167011))) else (none)) else (none)) else ((some (([(⟨#[]⟩ : ByteArray), (⟨#[116, 105, 99, 107, 32]⟩ : ByteArray), (⟨#[105, 110, 118, 111, 107, 101, 32]⟩ : ByteArray), (⟨#[112, 111, 105, 110, 116, 32]⟩ : ByteArray), (⟨#[102, 105, 114, 101, 32]⟩ : ByteArray), (⟨#[114, 101, 116, 117, 114, 110, 32]⟩ : ByteArray)] : List ByteArray) : List ByteArray)).bind fun y183 => (if 0 ≤ x167000 then (if x167000 < (y183.length : Int) then (if (x3.size : Int) > ((rdOf ByteArray.empty y183 x167000).size : Int) then (if 0 ≤ ((rdOf ByteArray.empty y183 x167000).size : Int) then (if ((rdOf ByteArray.empty y183 x167000).size : Int) ≤ (x3.size : Int) then (some ((x3.extract 0 (((rdOf ByteArray.empty y183 x167000).size : Int) : Int).toNat).toList == (rdOf ByteArray.empty y183 x167000).toList)) else (none)) else (none)) else (some false)) else (none)) else (none)))
end
def knelllaw11_EventWords.f (k : Nat) (a0_0 : Int) (a0_1 : Int) (a0_2 : Int) (a0_3 : Int) (a0_4 : Int) (a0_5 : Int) (a0_6 : Int) (a0_7 : Int) (a0_8 : Int) (a0_9 : Int) (a0_10 : Bool) (a0_11 : Int) : Option (Bool) := (knelllaw11_Of.f a0_0 a0_1 a0_2 a0_3 a0_4 a0_5 a0_6 a0_7 a0_8 a0_9 a0_10 a0_11).bind fun bt167 => ((event_Line.f bt167.1 bt167.2.1 bt167.2.2.1 bt167.2.2.2.1 bt167.2.2.2.2.1 bt167.2.2.2.2.2.1 bt167.2.2.2.2.2.2.1 bt167.2.2.2.2.2.2.2.1 bt167.2.2.2.2.2.2.2.2.1 bt167.2.2.2.2.2.2.2.2.2.1 bt167.2.2.2.2.2.2.2.2.2.2.1 bt167.2.2.2.2.2.2.2.2.2.2.2).bind fun t179 => ((knelllaw11_speaks.f).bind fun t180 => (if t180 = true then ((knellref11_Right.f a0_0 a0_1 a0_2 a0_3 a0_4 a0_5 a0_6 a0_7 a0_8 a0_9 a0_10 a0_11).bind fun t181 => (knelllaw11_EventWords.j0 k t179 (!t181) a0_0 a0_1 a0_2 a0_3 a0_4 a0_5 a0_6 a0_7 a0_8 a0_9 a0_10 a0_11)) else (knelllaw11_EventWords.j0 k t179 true a0_0 a0_1 a0_2 a0_3 a0_4 a0_5 a0_6 a0_7 a0_8 a0_9 a0_10 a0_11))))
theorem knelllaw11_EventWords.mono_l : ∀ k, (∀ y0 y1 y2 y3 y4 y5 y6 y7 y8 y9 y10 y11 y12 y13, LeO (knelllaw11_EventWords.j0 k y0 y1 y2 y3 y4 y5 y6 y7 y8 y9 y10 y11 y12 y13) (knelllaw11_EventWords.j0 (k + 1) y0 y1 y2 y3 y4 y5 y6 y7 y8 y9 y10 y11 y12 y13)) ∧ (∀ y0 y1 y2 y3 y4 y5 y6 y7 y8 y9 y10 y11 y12 y13 y14, LeO (knelllaw11_EventWords.l0 k y0 y1 y2 y3 y4 y5 y6 y7 y8 y9 y10 y11 y12 y13 y14) (knelllaw11_EventWords.l0 (k + 1) y0 y1 y2 y3 y4 y5 y6 y7 y8 y9 y10 y11 y12 y13 y14))
  | 0 => ⟨fun _ _ _ _ _ _ _ _ _ _ _ _ _ _ r h => by simp [knelllaw11_EventWords.j0] at h, fun _ _ _ _ _ _ _ _ _ _ _ _ _ _ _ r h => by simp [knelllaw11_EventWords.l0] at h⟩
  | k + 1 => by
    obtain ⟨ih0, ih1⟩ := knelllaw11_EventWords.mono_l k
    refine ⟨?_, ?_⟩
    · intro y0 y1 y2 y3 y4 y5 y6 y7 y8 y9 y10 y11 y12 y13
      unfold knelllaw11_EventWords.j0
      repeat' first
      | (with_reducible exact ih0 _ _ _ _ _ _ _ _ _ _ _ _ _ _)
      | (with_reducible exact ih1 _ _ _ _ _ _ _ _ _ _ _ _ _ _ _)
      | (with_reducible exact LeO.refl _)
      | (with_reducible exact LeO.none _)
      | (with_reducible refine LeO.ite ?_ ?_)
      | (with_reducible refine LeO.bind ?_ (fun _ => ?_))
      | exact ih0 _ _ _ _ _ _ _ _ _ _ _ _ _ _
      | exact ih1 _ _ _ _ _ _ _ _ _ _ _ _ _ _ _
      | exact LeO.none _
      | refine LeO.ite ?_ ?_
      | refine LeO.bind ?_ (fun _ => ?_)
    · intro y0 y1 y2 y3 y4 y5 y6 y7 y8 y9 y10 y11 y12 y13 y14
      unfold knelllaw11_EventWords.l0
      repeat' first
      | (with_reducible exact ih0 _ _ _ _ _ _ _ _ _ _ _ _ _ _)
      | (with_reducible exact ih1 _ _ _ _ _ _ _ _ _ _ _ _ _ _ _)
      | (with_reducible exact LeO.refl _)
      | (with_reducible exact LeO.none _)
      | (with_reducible refine LeO.ite ?_ ?_)
      | (with_reducible refine LeO.bind ?_ (fun _ => ?_))
      | exact ih0 _ _ _ _ _ _ _ _ _ _ _ _ _ _
      | exact ih1 _ _ _ _ _ _ _ _ _ _ _ _ _ _ _
      | exact LeO.none _
      | refine LeO.ite ?_ ?_
      | refine LeO.bind ?_ (fun _ => ?_)
theorem knelllaw11_EventWords.mono : ∀ a0 a1 a2 a3 a4 a5 a6 a7 a8 a9 a10 a11 k, LeO (knelllaw11_EventWords.f k a0 a1 a2 a3 a4 a5 a6 a7 a8 a9 a10 a11) (knelllaw11_EventWords.f (k + 1) a0 a1 a2 a3 a4 a5 a6 a7 a8 a9 a10 a11) := by
  intro a0 a1 a2 a3 a4 a5 a6 a7 a8 a9 a10 a11 k
  obtain ⟨ih0, ih1⟩ := knelllaw11_EventWords.mono_l k
  unfold knelllaw11_EventWords.f
  repeat' first
      | (with_reducible exact ih0 _ _ _ _ _ _ _ _ _ _ _ _ _ _)
      | (with_reducible exact ih1 _ _ _ _ _ _ _ _ _ _ _ _ _ _ _)
      | (with_reducible exact LeO.refl _)
      | (with_reducible exact LeO.none _)
      | (with_reducible refine LeO.ite ?_ ?_)
      | (with_reducible refine LeO.bind ?_ (fun _ => ?_))
      | exact ih0 _ _ _ _ _ _ _ _ _ _ _ _ _ _
      | exact ih1 _ _ _ _ _ _ _ _ _ _ _ _ _ _ _
      | exact LeO.none _
      | refine LeO.ite ?_ ?_
      | refine LeO.bind ?_ (fun _ => ?_)
set_option maxHeartbeats 8000000 in
set_option maxRecDepth 100000 in
theorem knelllaw11_EventWords.calls (k : Nat) (a0_0 : Int) (a0_1 : Int) (a0_2 : Int) (a0_3 : Int) (a0_4 : Int) (a0_5 : Int) (a0_6 : Int) (a0_7 : Int) (a0_8 : Int) (a0_9 : Int) (a0_10 : Bool) (a0_11 : Int) (r : Bool) (w : World) (htab_ : Go.Proofs.YthniclbmpeklmaaDoor.Ev.Tab w) (h : knelllaw11_EventWords.f k a0_0 a0_1 a0_2 a0_3 a0_4 a0_5 a0_6 a0_7 a0_8 a0_9 a0_10 a0_11 = some r) :
    Calls Tryd.prog 5 #[.agg #[.int .i64 a0_0, .int .i64 a0_1, .int .i64 a0_2, .int .i64 a0_3, .int .i64 a0_4, .int .i64 a0_5, .int .i64 a0_6, .int .i64 a0_7, .int .i64 a0_8, .int .i64 a0_9, .bool a0_10, .int .i64 a0_11]] w fun e w' => e = .returned (.bool r) ∧ Below w.heap.size w w' := by
  have HTAB_ := Aside0.mk htab_
  clear htab_
  have hu25 := Tryd.underlying25
  have HB := Aside0.mk (Below.refl w.heap.size w)
  have H : ((knelllaw11_Of.f a0_0 a0_1 a0_2 a0_3 a0_4 a0_5 a0_6 a0_7 a0_8 a0_9 a0_10 a0_11).bind fun bt167 => ((event_Line.f bt167.1 bt167.2.1 bt167.2.2.1 bt167.2.2.2.1 bt167.2.2.2.2.1 bt167.2.2.2.2.2.1 bt167.2.2.2.2.2.2.1 bt167.2.2.2.2.2.2.2.1 bt167.2.2.2.2.2.2.2.2.1 bt167.2.2.2.2.2.2.2.2.2.1 bt167.2.2.2.2.2.2.2.2.2.2.1 bt167.2.2.2.2.2.2.2.2.2.2.2).bind fun t179 => ((knelllaw11_speaks.f).bind fun t180 => (if t180 = true then ((knellref11_Right.f a0_0 a0_1 a0_2 a0_3 a0_4 a0_5 a0_6 a0_7 a0_8 a0_9 a0_10 a0_11).bind fun t181 => (knelllaw11_EventWords.j0 k t179 (!t181) a0_0 a0_1 a0_2 a0_3 a0_4 a0_5 a0_6 a0_7 a0_8 a0_9 a0_10 a0_11)) else (knelllaw11_EventWords.j0 k t179 true a0_0 a0_1 a0_2 a0_3 a0_4 a0_5 a0_6 a0_7 a0_8 a0_9 a0_10 a0_11))))) = some r := h
  clear h
  replace H := Option.bind_eq_some_iff.mp H
  obtain ⟨⟨t167, t168, t169, t170, t171, t172, t173, t174, t175, t176, t177, t178⟩, A20, H⟩ := H
  replace H : ((event_Line.f t167 t168 t169 t170 t171 t172 t173 t174 t175 t176 t177 t178).bind fun t179 => ((knelllaw11_speaks.f).bind fun t180 => (if t180 = true then ((knellref11_Right.f a0_0 a0_1 a0_2 a0_3 a0_4 a0_5 a0_6 a0_7 a0_8 a0_9 a0_10 a0_11).bind fun t181 => (knelllaw11_EventWords.j0 k t179 (!t181) a0_0 a0_1 a0_2 a0_3 a0_4 a0_5 a0_6 a0_7 a0_8 a0_9 a0_10 a0_11)) else (knelllaw11_EventWords.j0 k t179 true a0_0 a0_1 a0_2 a0_3 a0_4 a0_5 a0_6 a0_7 a0_8 a0_9 a0_10 a0_11)))) = some r := H
  have A2 := Aside0.mk A20
  clear A20
  replace H := Option.bind_eq_some_iff.mp H
  obtain ⟨t179, A30, H⟩ := H
  replace H : ((knelllaw11_speaks.f).bind fun t180 => (if t180 = true then ((knellref11_Right.f a0_0 a0_1 a0_2 a0_3 a0_4 a0_5 a0_6 a0_7 a0_8 a0_9 a0_10 a0_11).bind fun t181 => (knelllaw11_EventWords.j0 k t179 (!t181) a0_0 a0_1 a0_2 a0_3 a0_4 a0_5 a0_6 a0_7 a0_8 a0_9 a0_10 a0_11)) else (knelllaw11_EventWords.j0 k t179 true a0_0 a0_1 a0_2 a0_3 a0_4 a0_5 a0_6 a0_7 a0_8 a0_9 a0_10 a0_11))) = some r := H
  have A3 := Aside0.mk A30
  clear A30
  have HC4 := Aside0.mk H
  clear H
  go_enter Tryd.func5, Tryd.ntmps5
  go_upto_region 2 with (first | ((with_reducible refine gate_dst (N := 1) rfl ?_); (try (refine gate_guard (by rfl) ?_; dsimp only)); refine box_event ?hg (N := 1) ?hd (cs := #[.int .i64 a0_0, .int .i64 a0_1, .int .i64 a0_2, .int .i64 a0_3, .int .i64 a0_4, .int .i64 a0_5, .int .i64 a0_6, .int .i64 a0_7, .int .i64 a0_8, .int .i64 a0_9, .bool a0_10, .int .i64 a0_11]) (t := 25) ?hr ?_; (case hd => rfl); (case hg => rfl); (case hr => first | (go_simp; done) | (go_simp; rfl)); intro gb166 hg w5 hbox hb; have n0_ := Aside0.mk (below_step (by repeat (first | (with_reducible first | exact HB.out | apply below_alloc | apply pw_below_drewN | apply below_drew1) | exact HB.out)) hb); have n1_ := Aside0.mk (hbox); have n2_ := Aside0.mk ((by rw [hg]; exact (below_size (by repeat (first | (with_reducible first | exact HB.out | apply below_alloc | apply pw_below_drewN | apply below_drew1) | exact HB.out))) : w.heap.size ≤ gb166)); have n3_ := Aside0.mk ((by rw [hg]; exact (below_size (by repeat (first | (with_reducible first | exact HB.out | apply below_alloc | apply pw_below_drewN | apply below_drew1) | exact HB.out))) : w.heap.size ≤ gb166)); clear HB; have HB := n0_; have BK166 := n1_; have GW166 := n2_; have GE166 := n3_; clear n0_ n1_ n2_ n3_; clear hb hbox hg; have hcz6_0 : w5.cell? ⟨gb166, 0, none⟩ = some (.int .i64 a0_0) := (blk_cell BK166.out 0).trans rfl; have hcz6_1 : w5.cell? ⟨gb166, 1, none⟩ = some (.int .i64 a0_1) := (blk_cell BK166.out 1).trans rfl; have hcz6_2 : w5.cell? ⟨gb166, 2, none⟩ = some (.int .i64 a0_2) := (blk_cell BK166.out 2).trans rfl; have hcz6_3 : w5.cell? ⟨gb166, 3, none⟩ = some (.int .i64 a0_3) := (blk_cell BK166.out 3).trans rfl; have hcz6_4 : w5.cell? ⟨gb166, 4, none⟩ = some (.int .i64 a0_4) := (blk_cell BK166.out 4).trans rfl; have hcz6_5 : w5.cell? ⟨gb166, 5, none⟩ = some (.int .i64 a0_5) := (blk_cell BK166.out 5).trans rfl; have hcz6_6 : w5.cell? ⟨gb166, 6, none⟩ = some (.int .i64 a0_6) := (blk_cell BK166.out 6).trans rfl; have hcz6_7 : w5.cell? ⟨gb166, 7, none⟩ = some (.int .i64 a0_7) := (blk_cell BK166.out 7).trans rfl; have hcz6_8 : w5.cell? ⟨gb166, 8, none⟩ = some (.int .i64 a0_8) := (blk_cell BK166.out 8).trans rfl; have hcz6_9 : w5.cell? ⟨gb166, 9, none⟩ = some (.int .i64 a0_9) := (blk_cell BK166.out 9).trans rfl; have hcz6_10 : w5.cell? ⟨gb166, 10, none⟩ = some (.bool a0_10) := (blk_cell BK166.out 10).trans rfl; have hcz6_11 : w5.cell? ⟨gb166, 11, none⟩ = some (.int .i64 a0_11) := (blk_cell BK166.out 11).trans rfl; have hfz6_0 := blk_frozen BK166.out 0; have hfz6_1 := blk_frozen BK166.out 1; have hfz6_2 := blk_frozen BK166.out 2; have hfz6_3 := blk_frozen BK166.out 3; have hfz6_4 := blk_frozen BK166.out 4; have hfz6_5 := blk_frozen BK166.out 5; have hfz6_6 := blk_frozen BK166.out 6; have hfz6_7 := blk_frozen BK166.out 7; have hfz6_8 := blk_frozen BK166.out 8; have hfz6_9 := blk_frozen BK166.out 9; have hfz6_10 := blk_frozen BK166.out 10; have hfz6_11 := blk_frozen BK166.out 11) | ((with_reducible refine gate_callee (f := 9) rfl ?_); refine goesL_ (some 7) rfl rfl Tryd.func9 (by kernel_rfl) rfl #[.agg #[.int .i64 a0_0, .int .i64 a0_1, .int .i64 a0_2, .int .i64 a0_3, .int .i64 a0_4, .int .i64 a0_5, .int .i64 a0_6, .int .i64 a0_7, .int .i64 a0_8, .int .i64 a0_9, .bool a0_10, .int .i64 a0_11]] rfl (by (try simp only [List.map_toArray, List.map_cons, List.map_nil]); first | done | rfl | (simp only [List.length_drop, List.length_take]; rfl)) ?_; (with_reducible refine (knelllaw11_Of.calls a0_0 a0_1 a0_2 a0_3 a0_4 a0_5 a0_6 a0_7 a0_8 a0_9 a0_10 a0_11 t167 t168 t169 t170 t171 t172 t173 t174 t175 t176 t177 t178 _ A2.out).mono ?_); rintro e w7 ⟨rfl, hb⟩; refine ⟨_, rfl, ?_⟩; have n0_ := Aside0.mk (blk_below (g := gb166) (o := .cells #[.int .i64 a0_0, .int .i64 a0_1, .int .i64 a0_2, .int .i64 a0_3, .int .i64 a0_4, .int .i64 a0_5, .int .i64 a0_6, .int .i64 a0_7, .int .i64 a0_8, .int .i64 a0_9, .bool a0_10, .int .i64 a0_11] 25 (0, 0)) (by (with_reducible repeat (first | refine blk_drewN ?_ _ | refine blk_drew ?_ | refine blk_alloc ?_ _)); exact BK166.out) hb); have n1_ := Aside0.mk (below_step (by repeat (first | (with_reducible first | exact HB.out | apply below_alloc | apply pw_below_drewN | apply below_drew1 | refine below_set ?_ GE166.out) | exact HB.out)) hb); clear BK166; clear HB; have BK166 := n0_; have HB := n1_; clear n0_ n1_; (try clear hb); (try clear hb2); (try clear hk); (try clear hi)) | ((with_reducible refine gate_callee (f := 11) rfl ?_); refine goesL_ (some 8) rfl rfl Tryd.func11 (by kernel_rfl) rfl #[.agg #[.int .i64 t167, .int .i64 t168, .int .i64 t169, .int .i64 t170, .int .i64 t171, .int .i64 t172, .int .i64 t173, .int .i64 t174, .int .i64 t175, .int .i64 t176, .bool t177, .int .i64 t178]] rfl (by (try simp only [List.map_toArray, List.map_cons, List.map_nil]); first | done | rfl | (simp only [List.length_drop, List.length_take]; rfl)) ?_; (with_reducible refine (event_Line.calls t167 t168 t169 t170 t171 t172 t173 t174 t175 t176 t177 t178 t179 _ (Go.Proofs.YthniclbmpeklmaaDoor.Ev.Tab.below HTAB_.out (by repeat (first | (with_reducible first | exact HB.out | apply below_alloc | apply pw_below_drewN | apply below_drew1) | exact HB.out))) A3.out).mono ?_); rintro e w8 ⟨rfl, hb⟩; refine ⟨_, rfl, ?_⟩; have n0_ := Aside0.mk (blk_below (g := gb166) (o := .cells #[.int .i64 a0_0, .int .i64 a0_1, .int .i64 a0_2, .int .i64 a0_3, .int .i64 a0_4, .int .i64 a0_5, .int .i64 a0_6, .int .i64 a0_7, .int .i64 a0_8, .int .i64 a0_9, .bool a0_10, .int .i64 a0_11] 25 (0, 0)) (by (with_reducible repeat (first | refine blk_drewN ?_ _ | refine blk_drew ?_ | refine blk_alloc ?_ _)); exact BK166.out) hb); have n1_ := Aside0.mk (below_step (by repeat (first | (with_reducible first | exact HB.out | apply below_alloc | apply pw_below_drewN | apply below_drew1 | refine below_set ?_ GE166.out) | exact HB.out)) hb); clear BK166; clear HB; have BK166 := n0_; have HB := n1_; clear n0_ n1_; (try clear hb); (try clear hb2); (try clear hk); (try clear hi)))
  (try simp only [Act.put, List.setIfInBounds_toArray, List.set_cons_zero, List.set_cons_succ])
  go_cut [15] (fun v15 wc => ∃ (kq : Nat) (x15_3 : Bool), v15 = .bool x15_3 ∧ Aside0 (knelllaw11_EventWords.j0 kq t179 x15_3 a0_0 a0_1 a0_2 a0_3 a0_4 a0_5 a0_6 a0_7 a0_8 a0_9 a0_10 a0_11 = some r) ∧ Aside0 (kq ≤ k) ∧ Aside0 (wc.heap[gb166]? = some (.cells #[.int .i64 a0_0, .int .i64 a0_1, .int .i64 a0_2, .int .i64 a0_3, .int .i64 a0_4, .int .i64 a0_5, .int .i64 a0_6, .int .i64 a0_7, .int .i64 a0_8, .int .i64 a0_9, .bool a0_10, .int .i64 a0_11] 25 (0, 0))) ∧ Aside0 (Below w.heap.size w wc))
  case first =>
    have H := HC4.out
    clear HC4
    replace H := Option.bind_eq_some_iff.mp H
    obtain ⟨t180, A90, H⟩ := H
    replace H : (if t180 = true then ((knellref11_Right.f a0_0 a0_1 a0_2 a0_3 a0_4 a0_5 a0_6 a0_7 a0_8 a0_9 a0_10 a0_11).bind fun t181 => (knelllaw11_EventWords.j0 k t179 (!t181) a0_0 a0_1 a0_2 a0_3 a0_4 a0_5 a0_6 a0_7 a0_8 a0_9 a0_10 a0_11)) else (knelllaw11_EventWords.j0 k t179 true a0_0 a0_1 a0_2 a0_3 a0_4 a0_5 a0_6 a0_7 a0_8 a0_9 a0_10 a0_11)) = some r := H
    have A9 := Aside0.mk A90
    clear A90
    by_cases c10 : t180 = true
    · subst c10
      have H1 : ((knellref11_Right.f a0_0 a0_1 a0_2 a0_3 a0_4 a0_5 a0_6 a0_7 a0_8 a0_9 a0_10 a0_11).bind fun t181 => (knelllaw11_EventWords.j0 k t179 (!t181) a0_0 a0_1 a0_2 a0_3 a0_4 a0_5 a0_6 a0_7 a0_8 a0_9 a0_10 a0_11)) = some r := by rw [if_pos rfl] at H; exact H
      clear H
      have H := H1
      clear H1
      replace H := Option.bind_eq_some_iff.mp H
      obtain ⟨t181, A110, H⟩ := H
      replace H : (knelllaw11_EventWords.j0 k t179 (!t181) a0_0 a0_1 a0_2 a0_3 a0_4 a0_5 a0_6 a0_7 a0_8 a0_9 a0_10 a0_11) = some r := H
      have A11 := Aside0.mk A110
      clear A110
      have H' := Aside0.mk H
      clear H
      go_wp2_with (first | ((with_reducible refine gate_callee (f := 7) rfl ?_); refine goesL_ (some 9) rfl rfl Tryd.func7 (by kernel_rfl) rfl #[] rfl (by (try simp only [List.map_toArray, List.map_cons, List.map_nil]); first | done | rfl | (simp only [List.length_drop, List.length_take]; rfl)) ?_; (with_reducible refine (knelllaw11_speaks.calls  true _ (Go.Proofs.YthniclbmpeklmaaDoor.Ev.Tab.below HTAB_.out (by repeat (first | (with_reducible first | exact HB.out | apply below_alloc | apply pw_below_drewN | apply below_drew1) | exact HB.out))) A9.out).mono ?_); rintro e w12 ⟨rfl, hb⟩; refine ⟨_, rfl, ?_⟩; have n0_ := Aside0.mk (blk_below (g := gb166) (o := .cells #[.int .i64 a0_0, .int .i64 a0_1, .int .i64 a0_2, .int .i64 a0_3, .int .i64 a0_4, .int .i64 a0_5, .int .i64 a0_6, .int .i64 a0_7, .int .i64 a0_8, .int .i64 a0_9, .bool a0_10, .int .i64 a0_11] 25 (0, 0)) (by (with_reducible repeat (first | refine blk_drewN ?_ _ | refine blk_drew ?_ | refine blk_alloc ?_ _)); exact BK166.out) hb); have n1_ := Aside0.mk (below_step (by repeat (first | (with_reducible first | exact HB.out | apply below_alloc | apply pw_below_drewN | apply below_drew1 | refine below_set ?_ GE166.out) | exact HB.out)) hb); clear BK166; clear HB; have BK166 := n0_; have HB := n1_; clear n0_ n1_; (try clear hb); (try clear hb2); (try clear hk); (try clear hi); have hcz13_0 : w12.cell? ⟨gb166, 0, none⟩ = some (.int .i64 a0_0) := (blk_cell BK166.out 0).trans rfl; have hcz13_1 : w12.cell? ⟨gb166, 1, none⟩ = some (.int .i64 a0_1) := (blk_cell BK166.out 1).trans rfl; have hcz13_2 : w12.cell? ⟨gb166, 2, none⟩ = some (.int .i64 a0_2) := (blk_cell BK166.out 2).trans rfl; have hcz13_3 : w12.cell? ⟨gb166, 3, none⟩ = some (.int .i64 a0_3) := (blk_cell BK166.out 3).trans rfl; have hcz13_4 : w12.cell? ⟨gb166, 4, none⟩ = some (.int .i64 a0_4) := (blk_cell BK166.out 4).trans rfl; have hcz13_5 : w12.cell? ⟨gb166, 5, none⟩ = some (.int .i64 a0_5) := (blk_cell BK166.out 5).trans rfl; have hcz13_6 : w12.cell? ⟨gb166, 6, none⟩ = some (.int .i64 a0_6) := (blk_cell BK166.out 6).trans rfl; have hcz13_7 : w12.cell? ⟨gb166, 7, none⟩ = some (.int .i64 a0_7) := (blk_cell BK166.out 7).trans rfl; have hcz13_8 : w12.cell? ⟨gb166, 8, none⟩ = some (.int .i64 a0_8) := (blk_cell BK166.out 8).trans rfl; have hcz13_9 : w12.cell? ⟨gb166, 9, none⟩ = some (.int .i64 a0_9) := (blk_cell BK166.out 9).trans rfl; have hcz13_10 : w12.cell? ⟨gb166, 10, none⟩ = some (.bool a0_10) := (blk_cell BK166.out 10).trans rfl; have hcz13_11 : w12.cell? ⟨gb166, 11, none⟩ = some (.int .i64 a0_11) := (blk_cell BK166.out 11).trans rfl; have hfz13_0 := blk_frozen BK166.out 0; have hfz13_1 := blk_frozen BK166.out 1; have hfz13_2 := blk_frozen BK166.out 2; have hfz13_3 := blk_frozen BK166.out 3; have hfz13_4 := blk_frozen BK166.out 4; have hfz13_5 := blk_frozen BK166.out 5; have hfz13_6 := blk_frozen BK166.out 6; have hfz13_7 := blk_frozen BK166.out 7; have hfz13_8 := blk_frozen BK166.out 8; have hfz13_9 := blk_frozen BK166.out 9; have hfz13_10 := blk_frozen BK166.out 10; have hfz13_11 := blk_frozen BK166.out 11) | (go_at_call 10; (with_reducible refine (knellref11_Right.calls a0_0 a0_1 a0_2 a0_3 a0_4 a0_5 a0_6 a0_7 a0_8 a0_9 a0_10 a0_11 t181 _ A11.out).mono ?_); rintro e w14 ⟨rfl, hb⟩; have n0_ := Aside0.mk (blk_below (g := gb166) (o := .cells #[.int .i64 a0_0, .int .i64 a0_1, .int .i64 a0_2, .int .i64 a0_3, .int .i64 a0_4, .int .i64 a0_5, .int .i64 a0_6, .int .i64 a0_7, .int .i64 a0_8, .int .i64 a0_9, .bool a0_10, .int .i64 a0_11] 25 (0, 0)) (by (with_reducible repeat (first | refine blk_drewN ?_ _ | refine blk_drew ?_ | refine blk_alloc ?_ _)); exact BK166.out) hb); have n1_ := Aside0.mk (below_step (by repeat (first | (with_reducible first | exact HB.out | apply below_alloc | apply pw_below_drewN | apply below_drew1 | refine below_set ?_ GE166.out) | exact HB.out)) hb); clear BK166; clear HB; have BK166 := n0_; have HB := n1_; clear n0_ n1_; (try clear hb); (try clear hb2); (try clear hk); (try clear hi)))
      go_meet
      case rel => exact ⟨_, (!t181), (by first | rfl | (simp; done) | (simp [*]; done)), H', ⟨by first | omega | exact Nat.le_refl _⟩, ⟨by (with_reducible repeat (first | refine blk_drewN ?_ _ | refine blk_drew ?_ | refine blk_alloc ?_ _)); exact BK166.out⟩, ⟨by repeat (first | (with_reducible first | exact HB.out | apply below_alloc | apply pw_below_drewN | apply below_drew1 | refine below_set ?_ GE166.out) | exact HB.out)⟩⟩
    · replace c10 := Bool.eq_false_iff.mpr c10
      subst c10
      have H1 : (knelllaw11_EventWords.j0 k t179 true a0_0 a0_1 a0_2 a0_3 a0_4 a0_5 a0_6 a0_7 a0_8 a0_9 a0_10 a0_11) = some r := by rw [if_neg (show ¬ (false = true) by decide)] at H; exact H
      clear H
      have H := H1
      clear H1
      have H' := Aside0.mk H
      clear H
      go_wp2_with (first | ((with_reducible refine gate_callee (f := 7) rfl ?_); refine goesL_ (some 9) rfl rfl Tryd.func7 (by kernel_rfl) rfl #[] rfl (by (try simp only [List.map_toArray, List.map_cons, List.map_nil]); first | done | rfl | (simp only [List.length_drop, List.length_take]; rfl)) ?_; (with_reducible refine (knelllaw11_speaks.calls  false _ (Go.Proofs.YthniclbmpeklmaaDoor.Ev.Tab.below HTAB_.out (by repeat (first | (with_reducible first | exact HB.out | apply below_alloc | apply pw_below_drewN | apply below_drew1) | exact HB.out))) A9.out).mono ?_); rintro e w15 ⟨rfl, hb⟩; refine ⟨_, rfl, ?_⟩; have n0_ := Aside0.mk (blk_below (g := gb166) (o := .cells #[.int .i64 a0_0, .int .i64 a0_1, .int .i64 a0_2, .int .i64 a0_3, .int .i64 a0_4, .int .i64 a0_5, .int .i64 a0_6, .int .i64 a0_7, .int .i64 a0_8, .int .i64 a0_9, .bool a0_10, .int .i64 a0_11] 25 (0, 0)) (by (with_reducible repeat (first | refine blk_drewN ?_ _ | refine blk_drew ?_ | refine blk_alloc ?_ _)); exact BK166.out) hb); have n1_ := Aside0.mk (below_step (by repeat (first | (with_reducible first | exact HB.out | apply below_alloc | apply pw_below_drewN | apply below_drew1 | refine below_set ?_ GE166.out) | exact HB.out)) hb); clear BK166; clear HB; have BK166 := n0_; have HB := n1_; clear n0_ n1_; (try clear hb); (try clear hb2); (try clear hk); (try clear hi)))
      go_meet
      case rel => exact ⟨_, (true), (by first | rfl | (simp; done) | (simp [*]; done)), H', ⟨by first | omega | exact Nat.le_refl _⟩, ⟨by (with_reducible repeat (first | refine blk_drewN ?_ _ | refine blk_drew ?_ | refine blk_alloc ?_ _)); exact BK166.out⟩, ⟨by repeat (first | (with_reducible first | exact HB.out | apply below_alloc | apply pw_below_drewN | apply below_drew1 | refine below_set ?_ GE166.out) | exact HB.out)⟩⟩
  case rest =>
    clear HC4
    try clear c1
    try clear p2
    try clear c5
    try clear c7
    try clear c9
    try clear c10
    try clear c11
    try clear hcz13_0
    try clear hcz13_1
    try clear hcz13_10
    try clear hcz13_11
    try clear hcz13_2
    try clear hcz13_3
    try clear hcz13_4
    try clear hcz13_5
    try clear hcz13_6
    try clear hcz13_7
    try clear hcz13_8
    try clear hcz13_9
    try clear hcz6_0
    try clear hcz6_1
    try clear hcz6_10
    try clear hcz6_11
    try clear hcz6_2
    try clear hcz6_3
    try clear hcz6_4
    try clear hcz6_5
    try clear hcz6_6
    try clear hcz6_7
    try clear hcz6_8
    try clear hcz6_9
    try clear hfz13_0
    try clear hfz13_1
    try clear hfz13_10
    try clear hfz13_11
    try clear hfz13_2
    try clear hfz13_3
    try clear hfz13_4
    try clear hfz13_5
    try clear hfz13_6
    try clear hfz13_7
    try clear hfz13_8
    try clear hfz13_9
    try clear hfz6_0
    try clear hfz6_1
    try clear hfz6_10
    try clear hfz6_11
    try clear hfz6_2
    try clear hfz6_3
    try clear hfz6_4
    try clear hfz6_5
    try clear hfz6_6
    try clear hfz6_7
    try clear hfz6_8
    try clear hfz6_9
    obtain ⟨kq, x15_3, rfl, HA, HJ3, BK166, HB⟩ := hcut
    cases kq with
    | zero => exact absurd HA.out (by simp [knelllaw11_EventWords.j0])
    | succ kj3 =>
      have H := HA.out
      clear HA
      simp only [knelllaw11_EventWords.j0] at H
      by_cases c16 : x15_3 = true
      · subst c16
        have H1 : ((knelllaw11_speaks.f).bind fun t182 => (if t182 = true then (some (t179.toList == ([] : List UInt8))) else (some false))) = some r := by rw [if_pos rfl] at H; exact H
        clear H
        have H := H1
        clear H1
        replace H := Option.bind_eq_some_iff.mp H
        obtain ⟨t182, A170, H⟩ := H
        replace H : (if t182 = true then (some (t179.toList == ([] : List UInt8))) else (some false)) = some r := H
        have A17 := Aside0.mk A170
        clear A170
        by_cases c18 : t182 = true
        · subst c18
          have H1 : (some (t179.toList == ([] : List UInt8))) = some r := by rw [if_pos rfl] at H; exact H
          clear H
          have H := H1
          clear H1
          obtain rfl := Option.some.inj H
          go_wp2_with (first | ((with_reducible refine gate_callee (f := 7) rfl ?_); refine goesL_ (some 16) rfl rfl Tryd.func7 (by kernel_rfl) rfl #[] rfl (by (try simp only [List.map_toArray, List.map_cons, List.map_nil]); first | done | rfl | (simp only [List.length_drop, List.length_take]; rfl)) ?_; (with_reducible refine (knelllaw11_speaks.calls  true _ (Go.Proofs.YthniclbmpeklmaaDoor.Ev.Tab.below HTAB_.out (by repeat (first | (with_reducible first | exact HB.out | apply below_alloc | apply pw_below_drewN | apply below_drew1) | exact HB.out))) A17.out).mono ?_); rintro e w19 ⟨rfl, hb⟩; refine ⟨_, rfl, ?_⟩; have n0_ := Aside0.mk (blk_below (g := gb166) (o := .cells #[.int .i64 a0_0, .int .i64 a0_1, .int .i64 a0_2, .int .i64 a0_3, .int .i64 a0_4, .int .i64 a0_5, .int .i64 a0_6, .int .i64 a0_7, .int .i64 a0_8, .int .i64 a0_9, .bool a0_10, .int .i64 a0_11] 25 (0, 0)) (by (with_reducible repeat (first | refine blk_drewN ?_ _ | refine blk_drew ?_ | refine blk_alloc ?_ _)); exact BK166.out) hb); have n1_ := Aside0.mk (below_step (by repeat (first | (with_reducible first | exact HB.out | apply below_alloc | apply pw_below_drewN | apply below_drew1 | refine below_set ?_ GE166.out) | exact HB.out)) hb); clear BK166; clear HB; have BK166 := n0_; have HB := n1_; clear n0_ n1_; (try clear hb); (try clear hb2); (try clear hk); (try clear hi)))
          go_ret
          exact ⟨by first | rfl | (simp [errW_none, errW_some] <;> rfl) | (simp [*, errW_none, errW_some] <;> rfl), by repeat (first | (with_reducible first | exact HB.out | apply below_alloc | apply pw_below_drewN | apply below_drew1 | refine below_set ?_ GE166.out) | exact HB.out)⟩
        · replace c18 := Bool.eq_false_iff.mpr c18
          subst c18
          have H1 : (some false) = some r := by rw [if_neg (show ¬ (false = true) by decide)] at H; exact H
          clear H
          have H := H1
          clear H1
          obtain rfl := Option.some.inj H
          go_wp2_with (first | ((with_reducible refine gate_callee (f := 7) rfl ?_); refine goesL_ (some 16) rfl rfl Tryd.func7 (by kernel_rfl) rfl #[] rfl (by (try simp only [List.map_toArray, List.map_cons, List.map_nil]); first | done | rfl | (simp only [List.length_drop, List.length_take]; rfl)) ?_; (with_reducible refine (knelllaw11_speaks.calls  false _ (Go.Proofs.YthniclbmpeklmaaDoor.Ev.Tab.below HTAB_.out (by repeat (first | (with_reducible first | exact HB.out | apply below_alloc | apply pw_below_drewN | apply below_drew1) | exact HB.out))) A17.out).mono ?_); rintro e w20 ⟨rfl, hb⟩; refine ⟨_, rfl, ?_⟩; have n0_ := Aside0.mk (blk_below (g := gb166) (o := .cells #[.int .i64 a0_0, .int .i64 a0_1, .int .i64 a0_2, .int .i64 a0_3, .int .i64 a0_4, .int .i64 a0_5, .int .i64 a0_6, .int .i64 a0_7, .int .i64 a0_8, .int .i64 a0_9, .bool a0_10, .int .i64 a0_11] 25 (0, 0)) (by (with_reducible repeat (first | refine blk_drewN ?_ _ | refine blk_drew ?_ | refine blk_alloc ?_ _)); exact BK166.out) hb); have n1_ := Aside0.mk (below_step (by repeat (first | (with_reducible first | exact HB.out | apply below_alloc | apply pw_below_drewN | apply below_drew1 | refine below_set ?_ GE166.out) | exact HB.out)) hb); clear BK166; clear HB; have BK166 := n0_; have HB := n1_; clear n0_ n1_; (try clear hb); (try clear hb2); (try clear hk); (try clear hi)))
          go_ret
          exact ⟨by first | rfl | (simp [errW_none, errW_some] <;> rfl) | (simp [*, errW_none, errW_some] <;> rfl), by repeat (first | (with_reducible first | exact HB.out | apply below_alloc | apply pw_below_drewN | apply below_drew1 | refine below_set ?_ GE166.out) | exact HB.out)⟩
      · replace c16 := Bool.eq_false_iff.mpr c16
        subst c16
        have H1 : (knelllaw11_EventWords.l0 kj3 t179 (t179.size : Int) 0 a0_0 a0_1 a0_2 a0_3 a0_4 a0_5 a0_6 a0_7 a0_8 a0_9 a0_10 a0_11) = some r := by rw [if_neg (show ¬ (false = true) by decide)] at H; exact H
        clear H
        have H := H1
        clear H1
        have H' := Aside0.mk H
        clear H
        go_wp2
        go_loopg [23] kj3 (fun kq v23 w' => ∃ (x23_2 : Int), v23 = .int .i64 x23_2 ∧ Aside0 (knelllaw11_EventWords.l0 kq t179 (t179.size : Int) x23_2 a0_0 a0_1 a0_2 a0_3 a0_4 a0_5 a0_6 a0_7 a0_8 a0_9 a0_10 a0_11 = some r) ∧ Aside0 (kq ≤ kj3) ∧ Aside0 (w'.heap[gb166]? = some (.cells #[.int .i64 a0_0, .int .i64 a0_1, .int .i64 a0_2, .int .i64 a0_3, .int .i64 a0_4, .int .i64 a0_5, .int .i64 a0_6, .int .i64 a0_7, .int .i64 a0_8, .int .i64 a0_9, .bool a0_10, .int .i64 a0_11] 25 (0, 0))) ∧ Aside0 (Below w.heap.size w w'))
        case atStart => exact ⟨(0), (by first | rfl | (simp; done) | (simp [*]; done)), H', ⟨Nat.le_refl _⟩, ⟨by (with_reducible repeat (first | refine blk_drewN ?_ _ | refine blk_drew ?_ | refine blk_alloc ?_ _)); exact BK166.out⟩, ⟨by repeat (first | (with_reducible first | exact HB.out | apply below_alloc | apply pw_below_drewN | apply below_drew1 | refine below_set ?_ GE166.out) | exact HB.out)⟩⟩
        case round =>
          clear H'
          try clear c1
          try clear p2
          try clear c5
          try clear c7
          try clear c9
          try clear c10
          try clear c11
          try clear c16
          try clear c18
          try clear hcz13_0
          try clear hcz13_1
          try clear hcz13_10
          try clear hcz13_11
          try clear hcz13_2
          try clear hcz13_3
          try clear hcz13_4
          try clear hcz13_5
          try clear hcz13_6
          try clear hcz13_7
          try clear hcz13_8
          try clear hcz13_9
          try clear hcz6_0
          try clear hcz6_1
          try clear hcz6_10
          try clear hcz6_11
          try clear hcz6_2
          try clear hcz6_3
          try clear hcz6_4
          try clear hcz6_5
          try clear hcz6_6
          try clear hcz6_7
          try clear hcz6_8
          try clear hcz6_9
          try clear hfz13_0
          try clear hfz13_1
          try clear hfz13_10
          try clear hfz13_11
          try clear hfz13_2
          try clear hfz13_3
          try clear hfz13_4
          try clear hfz13_5
          try clear hfz13_6
          try clear hfz13_7
          try clear hfz13_8
          try clear hfz13_9
          try clear hfz6_0
          try clear hfz6_1
          try clear hfz6_10
          try clear hfz6_11
          try clear hfz6_2
          try clear hfz6_3
          try clear hfz6_4
          try clear hfz6_5
          try clear hfz6_6
          try clear hfz6_7
          try clear hfz6_8
          try clear hfz6_9
          try clear p2
          obtain ⟨x23_2, rfl, HA, HK2, BK166, HB⟩ := hrel
          cases gk with
          | zero => exact absurd HA.out (by simp [knelllaw11_EventWords.l0])
          | succ k2 =>
            have H := HA.out
            clear HA
            simp only [knelllaw11_EventWords.l0] at H
            by_cases c21 : x23_2 < (t179.size : Int)
            · rw [if_pos c21] at H
              have c21b0 : decide (x23_2 < (t179.size : Int)) = true := decide_eq_true c21
              clear c21
              by_cases c22 : 0 ≤ x23_2
              · rw [if_pos c22] at H
                have c22b0 : decide (0 ≤ x23_2) = true := decide_eq_true c22
                clear c22
                by_cases c23 : x23_2 < (t179.size : Int)
                · rw [if_pos c23] at H
                  have c23b0 : decide (x23_2 < (t179.size : Int)) = true := decide_eq_true c23
                  clear c23
                  by_cases c25 : (bt t179 x23_2) = 10
                  · rw [if_pos c25] at H
                    have c25b0 : ((bt t179 x23_2) == 10) = true := beq_iff_eq.mpr c25
                    have c25b1 : ((bt t179 x23_2) != 10) = false := bne_eq_false_iff_eq.mpr c25
                    clear c25
                    obtain rfl := Option.some.inj H
                    have p24 : 0 ≤ (x23_2 : Int) := of_decide_eq_true (by first | (with_reducible assumption) | assumption)
                    have q24 : x23_2 < (t179.size : Int) := of_decide_eq_true (by first | (with_reducible assumption) | assumption)
                    have hx24 := bt_at t179 x23_2
                    replace p24 := eq_true p24
                    replace q24 := eq_true q24
                    go_wp2
                    go_ret
                    exact ⟨by first | rfl | (simp [errW_none, errW_some] <;> rfl) | (simp [*, errW_none, errW_some] <;> rfl), by repeat (first | (with_reducible first | exact HB.out | apply below_alloc | apply pw_below_drewN | apply below_drew1 | refine below_set ?_ GE166.out) | exact HB.out)⟩
                  · rw [if_neg c25] at H
                    have c25b0 : ((bt t179 x23_2) == 10) = false := beq_eq_false_iff_ne.mpr c25
                    have c25b1 : ((bt t179 x23_2) != 10) = true := bne_iff_ne.mpr c25
                    by_cases c27 : (bt t179 x23_2) = 32
                    · rw [if_pos c27] at H
                      have c27b0 : ((bt t179 x23_2) == 32) = true := beq_iff_eq.mpr c27
                      have c27b1 : ((bt t179 x23_2) != 32) = false := bne_eq_false_iff_eq.mpr c27
                      clear c27
                      by_cases c28 : x23_2 = 0
                      · rw [if_pos c28] at H
                        have c28b0 : (x23_2 == 0) = true := beq_iff_eq.mpr c28
                        have c28b1 : (x23_2 != 0) = false := bne_eq_false_iff_eq.mpr c28
                        clear c28
                        obtain rfl := Option.some.inj H
                        have p24 : 0 ≤ (x23_2 : Int) := of_decide_eq_true (by first | (with_reducible assumption) | assumption)
                        have q24 : x23_2 < (t179.size : Int) := of_decide_eq_true (by first | (with_reducible assumption) | assumption)
                        have hx24 := bt_at t179 x23_2
                        replace p24 := eq_true p24
                        replace q24 := eq_true q24
                        have p26 : 0 ≤ (x23_2 : Int) := of_decide_eq_true (by first | (with_reducible assumption) | assumption)
                        have q26 : x23_2 < (t179.size : Int) := of_decide_eq_true (by first | (with_reducible assumption) | assumption)
                        have hx26 := bt_at t179 x23_2
                        replace p26 := eq_true p26
                        replace q26 := eq_true q26
                        go_wp2
                        go_ret
                        exact ⟨by first | rfl | (simp [errW_none, errW_some] <;> rfl) | (simp [*, errW_none, errW_some] <;> rfl), by repeat (first | (with_reducible first | exact HB.out | apply below_alloc | apply pw_below_drewN | apply below_drew1 | refine below_set ?_ GE166.out) | exact HB.out)⟩
                      · rw [if_neg c28] at H
                        have c28b0 : (x23_2 == 0) = false := beq_eq_false_iff_ne.mpr c28
                        have c28b1 : (x23_2 != 0) = true := bne_iff_ne.mpr c28
                        by_cases c29 : x23_2 = (wrap64 ((t179.size : Int) - 1))
                        · rw [if_pos c29] at H
                          have c29b0 : (x23_2 == (wrap64 ((t179.size : Int) - 1))) = true := beq_iff_eq.mpr c29
                          have c29b1 : (x23_2 != (wrap64 ((t179.size : Int) - 1))) = false := bne_eq_false_iff_eq.mpr c29
                          clear c29
                          obtain rfl := Option.some.inj H
                          have p24 : 0 ≤ (x23_2 : Int) := of_decide_eq_true (by first | (with_reducible assumption) | assumption)
                          have q24 : x23_2 < (t179.size : Int) := of_decide_eq_true (by first | (with_reducible assumption) | assumption)
                          have hx24 := bt_at t179 x23_2
                          replace p24 := eq_true p24
                          replace q24 := eq_true q24
                          have p26 : 0 ≤ (x23_2 : Int) := of_decide_eq_true (by first | (with_reducible assumption) | assumption)
                          have q26 : x23_2 < (t179.size : Int) := of_decide_eq_true (by first | (with_reducible assumption) | assumption)
                          have hx26 := bt_at t179 x23_2
                          replace p26 := eq_true p26
                          replace q26 := eq_true q26
                          go_wp2
                          go_ret
                          exact ⟨by first | rfl | (simp [errW_none, errW_some] <;> rfl) | (simp [*, errW_none, errW_some] <;> rfl), by repeat (first | (with_reducible first | exact HB.out | apply below_alloc | apply pw_below_drewN | apply below_drew1 | refine below_set ?_ GE166.out) | exact HB.out)⟩
                        · rw [if_neg c29] at H
                          have c29b0 : (x23_2 == (wrap64 ((t179.size : Int) - 1))) = false := beq_eq_false_iff_ne.mpr c29
                          have c29b1 : (x23_2 != (wrap64 ((t179.size : Int) - 1))) = true := bne_iff_ne.mpr c29
                          obtain ⟨ji30, hji30⟩ : ∃ j_ : Int, (wrap64 (x23_2 + 1)) = j_ := ⟨_, rfl⟩
                          replace H : (if 0 ≤ (ji30) then (if (ji30) < (t179.size : Int) then (if (bt t179 (ji30)) = 32 then (some false) else (knelllaw11_EventWords.l0 k2 t179 (t179.size : Int) ji30 a0_0 a0_1 a0_2 a0_3 a0_4 a0_5 a0_6 a0_7 a0_8 a0_9 a0_10 a0_11)) else (none)) else (none)) = some r := by first | (rw [hji30] at H; exact H) | (simp only [hji30] at H ⊢; exact H)
                          have hji30w : (IntKind.i64.wrap (x23_2 + 1)) = ji30 := (i64_w _).trans hji30
                          by_cases c31 : 0 ≤ (ji30)
                          · rw [if_pos c31] at H
                            have c31b0 : decide (0 ≤ (ji30)) = true := decide_eq_true c31
                            clear c31
                            by_cases c32 : (ji30) < (t179.size : Int)
                            · rw [if_pos c32] at H
                              have c32b0 : decide ((ji30) < (t179.size : Int)) = true := decide_eq_true c32
                              clear c32
                              by_cases c34 : (bt t179 (ji30)) = 32
                              · rw [if_pos c34] at H
                                have c34b0 : ((bt t179 (ji30)) == 32) = true := beq_iff_eq.mpr c34
                                have c34b1 : ((bt t179 (ji30)) != 32) = false := bne_eq_false_iff_eq.mpr c34
                                clear c34
                                obtain rfl := Option.some.inj H
                                have p24 : 0 ≤ (x23_2 : Int) := of_decide_eq_true (by first | (with_reducible assumption) | assumption)
                                have q24 : x23_2 < (t179.size : Int) := of_decide_eq_true (by first | (with_reducible assumption) | assumption)
                                have hx24 := bt_at t179 x23_2
                                replace p24 := eq_true p24
                                replace q24 := eq_true q24
                                have p26 : 0 ≤ (x23_2 : Int) := of_decide_eq_true (by first | (with_reducible assumption) | assumption)
                                have q26 : x23_2 < (t179.size : Int) := of_decide_eq_true (by first | (with_reducible assumption) | assumption)
                                have hx26 := bt_at t179 x23_2
                                replace p26 := eq_true p26
                                replace q26 := eq_true q26
                                have p33 : 0 ≤ ((ji30) : Int) := of_decide_eq_true (by first | (with_reducible assumption) | assumption)
                                have q33 : (ji30) < (t179.size : Int) := of_decide_eq_true (by first | (with_reducible assumption) | assumption)
                                have hx33 := bt_at t179 (ji30)
                                replace p33 := eq_true p33
                                replace q33 := eq_true q33
                                go_wp2
                                go_ret
                                exact ⟨by first | rfl | (simp [errW_none, errW_some] <;> rfl) | (simp only [← hji30]; first | rfl | (simp [errW_none, errW_some] <;> rfl)) | (simp [*, errW_none, errW_some] <;> rfl), by repeat (first | (with_reducible first | exact HB.out | apply below_alloc | apply pw_below_drewN | apply below_drew1 | refine below_set ?_ GE166.out) | exact HB.out)⟩
                              · rw [if_neg c34] at H
                                have c34b0 : ((bt t179 (ji30)) == 32) = false := beq_eq_false_iff_ne.mpr c34
                                have c34b1 : ((bt t179 (ji30)) != 32) = true := bne_iff_ne.mpr c34
                                have H' := Aside0.mk H
                                clear H
                                have p24 : 0 ≤ (x23_2 : Int) := of_decide_eq_true (by first | (with_reducible assumption) | assumption)
                                have q24 : x23_2 < (t179.size : Int) := of_decide_eq_true (by first | (with_reducible assumption) | assumption)
                                have hx24 := bt_at t179 x23_2
                                replace p24 := eq_true p24
                                replace q24 := eq_true q24
                                have p26 : 0 ≤ (x23_2 : Int) := of_decide_eq_true (by first | (with_reducible assumption) | assumption)
                                have q26 : x23_2 < (t179.size : Int) := of_decide_eq_true (by first | (with_reducible assumption) | assumption)
                                have hx26 := bt_at t179 x23_2
                                replace p26 := eq_true p26
                                replace q26 := eq_true q26
                                have p33 : 0 ≤ ((ji30) : Int) := of_decide_eq_true (by first | (with_reducible assumption) | assumption)
                                have q33 : (ji30) < (t179.size : Int) := of_decide_eq_true (by first | (with_reducible assumption) | assumption)
                                have hx33 := bt_at t179 (ji30)
                                replace p33 := eq_true p33
                                replace q33 := eq_true q33
                                go_wp2
                                go_roundg k2
                                case measure => have := HJ3.out; have := HK2.out; omega
                                case rel => exact ⟨(ji30), (by first | rfl | (simp; done) | (simp only [← hji30] <;> (first | rfl | simp)) | (simp [*]; done)), H', ⟨by have := HJ3.out; have := HK2.out; omega⟩, ⟨by (with_reducible repeat (first | refine blk_drewN ?_ _ | refine blk_drew ?_ | refine blk_alloc ?_ _)); exact BK166.out⟩, ⟨by repeat (first | (with_reducible first | exact HB.out | apply below_alloc | apply pw_below_drewN | apply below_drew1 | refine below_set ?_ GE166.out) | exact HB.out)⟩⟩
                            · rw [if_neg c32] at H
                              exact absurd H (by simp)
                          · rw [if_neg c31] at H
                            exact absurd H (by simp)
                    · rw [if_neg c27] at H
                      have c27b0 : ((bt t179 x23_2) == 32) = false := beq_eq_false_iff_ne.mpr c27
                      have c27b1 : ((bt t179 x23_2) != 32) = true := bne_iff_ne.mpr c27
                      have H' := Aside0.mk H
                      clear H
                      have p24 : 0 ≤ (x23_2 : Int) := of_decide_eq_true (by first | (with_reducible assumption) | assumption)
                      have q24 : x23_2 < (t179.size : Int) := of_decide_eq_true (by first | (with_reducible assumption) | assumption)
                      have hx24 := bt_at t179 x23_2
                      replace p24 := eq_true p24
                      replace q24 := eq_true q24
                      have p26 : 0 ≤ (x23_2 : Int) := of_decide_eq_true (by first | (with_reducible assumption) | assumption)
                      have q26 : x23_2 < (t179.size : Int) := of_decide_eq_true (by first | (with_reducible assumption) | assumption)
                      have hx26 := bt_at t179 x23_2
                      replace p26 := eq_true p26
                      replace q26 := eq_true q26
                      go_wp2
                      go_roundg k2
                      case measure => have := HJ3.out; have := HK2.out; omega
                      case rel => exact ⟨(wrap64 (x23_2 + 1)), (by first | rfl | (simp; done) | (simp [*]; done)), H', ⟨by have := HJ3.out; have := HK2.out; omega⟩, ⟨by (with_reducible repeat (first | refine blk_drewN ?_ _ | refine blk_drew ?_ | refine blk_alloc ?_ _)); exact BK166.out⟩, ⟨by repeat (first | (with_reducible first | exact HB.out | apply below_alloc | apply pw_below_drewN | apply below_drew1 | refine below_set ?_ GE166.out) | exact HB.out)⟩⟩
                · rw [if_neg c23] at H
                  exact absurd H (by simp)
              · rw [if_neg c22] at H
                exact absurd H (by simp)
            · rw [if_neg c21] at H
              have c21b0 : decide (x23_2 < (t179.size : Int)) = false := decide_eq_false c21
              clear c21
              obtain ⟨y183, hy183⟩ : ∃ y_ : List ByteArray, y_ = (([(⟨#[]⟩ : ByteArray), (⟨#[116, 105, 99, 107, 32]⟩ : ByteArray), (⟨#[105, 110, 118, 111, 107, 101, 32]⟩ : ByteArray), (⟨#[112, 111, 105, 110, 116, 32]⟩ : ByteArray), (⟨#[102, 105, 114, 101, 32]⟩ : ByteArray), (⟨#[114, 101, 116, 117, 114, 110, 32]⟩ : ByteArray)] : List ByteArray)) := ⟨_, rfl⟩
              replace H : (if 0 ≤ a0_0 then (if a0_0 < (y183.length : Int) then (if (t179.size : Int) > ((rdOf ByteArray.empty y183 a0_0).size : Int) then (if 0 ≤ ((rdOf ByteArray.empty y183 a0_0).size : Int) then (if ((rdOf ByteArray.empty y183 a0_0).size : Int) ≤ (t179.size : Int) then (some ((t179.extract 0 (((rdOf ByteArray.empty y183 a0_0).size : Int) : Int).toNat).toList == (rdOf ByteArray.empty y183 a0_0).toList)) else (none)) else (none)) else (some false)) else (none)) else (none)) = some r := by first | (rw [hy183]; with_reducible exact H) | (have H2_ := (Option.bind_some _ _).symm.trans H; rw [hy183]; with_reducible exact H2_) | (have H2_ := (Option.bind_some _ _).symm.trans H; with_reducible exact H2_) | with_reducible exact H | (rw [hy183]; exact H) | exact H
              have Ny183 := Aside0.mk hy183
              clear hy183
              by_cases c35 : 0 ≤ a0_0
              · rw [if_pos c35] at H
                have c35b0 : decide (0 ≤ a0_0) = true := decide_eq_true c35
                clear c35
                by_cases c36 : a0_0 < (y183.length : Int)
                · rw [if_pos c36] at H
                  have c36b0 : decide (a0_0 < (y183.length : Int)) = true := decide_eq_true c36
                  clear c36
                  by_cases c37 : (t179.size : Int) > ((rdOf ByteArray.empty y183 a0_0).size : Int)
                  · rw [if_pos c37] at H
                    have c37b0 : decide (((rdOf ByteArray.empty y183 a0_0).size : Int) < (t179.size : Int)) = true := decide_eq_true c37
                    have c37b1 : decide ((rdOf ByteArray.empty y183 a0_0).size < t179.size) = true := decide_eq_true (Int.ofNat_lt.mp c37)
                    clear c37
                    by_cases c38 : 0 ≤ ((rdOf ByteArray.empty y183 a0_0).size : Int)
                    · rw [if_pos c38] at H
                      have c38b0 := eq_true c38
                      have c38b1 : decide (0 ≤ ((rdOf ByteArray.empty y183 a0_0).size : Int)) = true := decide_eq_true c38
                      clear c38
                      by_cases c39 : ((rdOf ByteArray.empty y183 a0_0).size : Int) ≤ (t179.size : Int)
                      · rw [if_pos c39] at H
                        have c39b0 := eq_true c39
                        have c39b1 : decide (((rdOf ByteArray.empty y183 a0_0).size : Int) ≤ (t179.size : Int)) = true := decide_eq_true c39
                        clear c39
                        obtain rfl := Option.some.inj H
                        go_wp2_with (first | ((with_reducible refine gate_dst (N := 55) rfl ?_); (try (refine gate_guard (by rfl) ?_; dsimp only)); refine Kd.R_lit Kd.string _ 9 ?hg (N := 55) ?hd (xs := ([(⟨#[]⟩ : ByteArray), (⟨#[116, 105, 99, 107, 32]⟩ : ByteArray), (⟨#[105, 110, 118, 111, 107, 101, 32]⟩ : ByteArray), (⟨#[112, 111, 105, 110, 116, 32]⟩ : ByteArray), (⟨#[102, 105, 114, 101, 32]⟩ : ByteArray), (⟨#[114, 101, 116, 117, 114, 110, 32]⟩ : ByteArray)] : List ByteArray)) (inner := [.string (⟨#[]⟩ : ByteArray), .string (⟨#[116, 105, 99, 107, 32]⟩ : ByteArray), .string (⟨#[105, 110, 118, 111, 107, 101, 32]⟩ : ByteArray), .string (⟨#[112, 111, 105, 110, 116, 32]⟩ : ByteArray), .string (⟨#[102, 105, 114, 101, 32]⟩ : ByteArray), .string (⟨#[114, 101, 116, 117, 114, 110, 32]⟩ : ByteArray)]) (ok := fun _ => True) (okp := fun _ => True) ?hr ?hp (fun _ hk => hk) trivial (Below.refl _ _) (Nat.le_refl _) (by simp) ?_; (case hd => rfl); (case hg => rfl); (case hr => first | (go_simp; done) | (go_simp; rfl)); (case hp => exact (Reps.one (show Kd.M Kd.string _ _ _ (⟨#[]⟩ : ByteArray) [.string (⟨#[]⟩ : ByteArray)] from rfl) (Reps.one (show Kd.M Kd.string _ _ _ (⟨#[116, 105, 99, 107, 32]⟩ : ByteArray) [.string (⟨#[116, 105, 99, 107, 32]⟩ : ByteArray)] from rfl) (Reps.one (show Kd.M Kd.string _ _ _ (⟨#[105, 110, 118, 111, 107, 101, 32]⟩ : ByteArray) [.string (⟨#[105, 110, 118, 111, 107, 101, 32]⟩ : ByteArray)] from rfl) (Reps.one (show Kd.M Kd.string _ _ _ (⟨#[112, 111, 105, 110, 116, 32]⟩ : ByteArray) [.string (⟨#[112, 111, 105, 110, 116, 32]⟩ : ByteArray)] from rfl) (Reps.one (show Kd.M Kd.string _ _ _ (⟨#[102, 105, 114, 101, 32]⟩ : ByteArray) [.string (⟨#[102, 105, 114, 101, 32]⟩ : ByteArray)] from rfl) (Reps.one (show Kd.M Kd.string _ _ _ (⟨#[114, 101, 116, 117, 114, 110, 32]⟩ : ByteArray) [.string (⟨#[114, 101, 116, 117, 114, 110, 32]⟩ : ByteArray)] from rfl) (Reps.none _ _)))))))); intro v184 w40 ho41 hb hg_ hnew_; clear hg_ hnew_; (first | rw [← Ny183.out] at ho41 | (simp only [Int.reduceToNat] at ho41; rw [← Ny183.out] at ho41)); have n0_ := Aside0.mk (Kd.R_lower ho41 (below_size (by repeat (first | (with_reducible first | exact HB.out | apply below_alloc | apply pw_below_drewN | apply below_drew1 | refine below_set ?_ GE166.out) | exact HB.out)))); have n1_ := Aside0.mk (blk_below (g := gb166) (o := .cells #[.int .i64 a0_0, .int .i64 a0_1, .int .i64 a0_2, .int .i64 a0_3, .int .i64 a0_4, .int .i64 a0_5, .int .i64 a0_6, .int .i64 a0_7, .int .i64 a0_8, .int .i64 a0_9, .bool a0_10, .int .i64 a0_11] 25 (0, 0)) (by (with_reducible repeat (first | refine blk_drewN ?_ _ | refine blk_drew ?_ | refine blk_alloc ?_ _)); exact BK166.out) hb); have n2_ := Aside0.mk (below_step (by repeat (first | (with_reducible first | exact HB.out | apply below_alloc | apply pw_below_drewN | apply below_drew1 | refine below_set ?_ GE166.out) | exact HB.out)) hb); clear BK166; clear HB; have HO185 := n0_; have BK166 := n1_; have HB := n2_; clear n0_ n1_ n2_; clear hb ho41; have hcz42_0 : w40.cell? ⟨gb166, 0, none⟩ = some (.int .i64 a0_0) := (blk_cell BK166.out 0).trans rfl; have hcz42_1 : w40.cell? ⟨gb166, 1, none⟩ = some (.int .i64 a0_1) := (blk_cell BK166.out 1).trans rfl; have hcz42_2 : w40.cell? ⟨gb166, 2, none⟩ = some (.int .i64 a0_2) := (blk_cell BK166.out 2).trans rfl; have hcz42_3 : w40.cell? ⟨gb166, 3, none⟩ = some (.int .i64 a0_3) := (blk_cell BK166.out 3).trans rfl; have hcz42_4 : w40.cell? ⟨gb166, 4, none⟩ = some (.int .i64 a0_4) := (blk_cell BK166.out 4).trans rfl; have hcz42_5 : w40.cell? ⟨gb166, 5, none⟩ = some (.int .i64 a0_5) := (blk_cell BK166.out 5).trans rfl; have hcz42_6 : w40.cell? ⟨gb166, 6, none⟩ = some (.int .i64 a0_6) := (blk_cell BK166.out 6).trans rfl; have hcz42_7 : w40.cell? ⟨gb166, 7, none⟩ = some (.int .i64 a0_7) := (blk_cell BK166.out 7).trans rfl; have hcz42_8 : w40.cell? ⟨gb166, 8, none⟩ = some (.int .i64 a0_8) := (blk_cell BK166.out 8).trans rfl; have hcz42_9 : w40.cell? ⟨gb166, 9, none⟩ = some (.int .i64 a0_9) := (blk_cell BK166.out 9).trans rfl; have hcz42_10 : w40.cell? ⟨gb166, 10, none⟩ = some (.bool a0_10) := (blk_cell BK166.out 10).trans rfl; have hcz42_11 : w40.cell? ⟨gb166, 11, none⟩ = some (.int .i64 a0_11) := (blk_cell BK166.out 11).trans rfl; have hfz42_0 := blk_frozen BK166.out 0; have hfz42_1 := blk_frozen BK166.out 1; have hfz42_2 := blk_frozen BK166.out 2; have hfz42_3 := blk_frozen BK166.out 3; have hfz42_4 := blk_frozen BK166.out 4; have hfz42_5 := blk_frozen BK166.out 5; have hfz42_6 := blk_frozen BK166.out 6; have hfz42_7 := blk_frozen BK166.out 7; have hfz42_8 := blk_frozen BK166.out 8; have hfz42_9 := blk_frozen BK166.out 9; have hfz42_10 := blk_frozen BK166.out 10; have hfz42_11 := blk_frozen BK166.out 11; obtain ⟨Ao43, co43, eo43⟩ := Kd.R_slice HO185.out; subst eo43; have p186 : 0 ≤ (a0_0 : Int) := of_decide_eq_true (by first | (with_reducible assumption) | assumption); have q186 : a0_0 < (y183.length : Int) := of_decide_eq_true (by first | (with_reducible assumption) | assumption); obtain ⟨ad186, e186, hx186_0⟩ := Kd.at_string (Kd.R_reads' HO185.out).2.2 a0_0 p186 q186; cases e186; replace p186 := eq_true p186; replace q186 := eq_true q186))
                        go_ret
                        exact ⟨by first | rfl | (simp [errW_none, errW_some] <;> rfl) | (simp [*, errW_none, errW_some] <;> rfl), by repeat (first | (with_reducible first | exact HB.out | apply below_alloc | apply pw_below_drewN | apply below_drew1 | refine below_set ?_ GE166.out) | exact HB.out)⟩
                      · rw [if_neg c39] at H
                        exact absurd H (by simp)
                    · rw [if_neg c38] at H
                      exact absurd H (by simp)
                  · rw [if_neg c37] at H
                    have c37b0 : decide (((rdOf ByteArray.empty y183 a0_0).size : Int) < (t179.size : Int)) = false := decide_eq_false c37
                    have c37b1 : decide ((rdOf ByteArray.empty y183 a0_0).size < t179.size) = false := decide_eq_false (fun h => c37 (Int.ofNat_lt.mpr h))
                    clear c37
                    obtain rfl := Option.some.inj H
                    go_wp2_with (first | ((with_reducible refine gate_dst (N := 55) rfl ?_); (try (refine gate_guard (by rfl) ?_; dsimp only)); refine Kd.R_lit Kd.string _ 9 ?hg (N := 55) ?hd (xs := ([(⟨#[]⟩ : ByteArray), (⟨#[116, 105, 99, 107, 32]⟩ : ByteArray), (⟨#[105, 110, 118, 111, 107, 101, 32]⟩ : ByteArray), (⟨#[112, 111, 105, 110, 116, 32]⟩ : ByteArray), (⟨#[102, 105, 114, 101, 32]⟩ : ByteArray), (⟨#[114, 101, 116, 117, 114, 110, 32]⟩ : ByteArray)] : List ByteArray)) (inner := [.string (⟨#[]⟩ : ByteArray), .string (⟨#[116, 105, 99, 107, 32]⟩ : ByteArray), .string (⟨#[105, 110, 118, 111, 107, 101, 32]⟩ : ByteArray), .string (⟨#[112, 111, 105, 110, 116, 32]⟩ : ByteArray), .string (⟨#[102, 105, 114, 101, 32]⟩ : ByteArray), .string (⟨#[114, 101, 116, 117, 114, 110, 32]⟩ : ByteArray)]) (ok := fun _ => True) (okp := fun _ => True) ?hr ?hp (fun _ hk => hk) trivial (Below.refl _ _) (Nat.le_refl _) (by simp) ?_; (case hd => rfl); (case hg => rfl); (case hr => first | (go_simp; done) | (go_simp; rfl)); (case hp => exact (Reps.one (show Kd.M Kd.string _ _ _ (⟨#[]⟩ : ByteArray) [.string (⟨#[]⟩ : ByteArray)] from rfl) (Reps.one (show Kd.M Kd.string _ _ _ (⟨#[116, 105, 99, 107, 32]⟩ : ByteArray) [.string (⟨#[116, 105, 99, 107, 32]⟩ : ByteArray)] from rfl) (Reps.one (show Kd.M Kd.string _ _ _ (⟨#[105, 110, 118, 111, 107, 101, 32]⟩ : ByteArray) [.string (⟨#[105, 110, 118, 111, 107, 101, 32]⟩ : ByteArray)] from rfl) (Reps.one (show Kd.M Kd.string _ _ _ (⟨#[112, 111, 105, 110, 116, 32]⟩ : ByteArray) [.string (⟨#[112, 111, 105, 110, 116, 32]⟩ : ByteArray)] from rfl) (Reps.one (show Kd.M Kd.string _ _ _ (⟨#[102, 105, 114, 101, 32]⟩ : ByteArray) [.string (⟨#[102, 105, 114, 101, 32]⟩ : ByteArray)] from rfl) (Reps.one (show Kd.M Kd.string _ _ _ (⟨#[114, 101, 116, 117, 114, 110, 32]⟩ : ByteArray) [.string (⟨#[114, 101, 116, 117, 114, 110, 32]⟩ : ByteArray)] from rfl) (Reps.none _ _)))))))); intro v184 w44 ho45 hb hg_ hnew_; clear hg_ hnew_; (first | rw [← Ny183.out] at ho45 | (simp only [Int.reduceToNat] at ho45; rw [← Ny183.out] at ho45)); have n0_ := Aside0.mk (Kd.R_lower ho45 (below_size (by repeat (first | (with_reducible first | exact HB.out | apply below_alloc | apply pw_below_drewN | apply below_drew1 | refine below_set ?_ GE166.out) | exact HB.out)))); have n1_ := Aside0.mk (blk_below (g := gb166) (o := .cells #[.int .i64 a0_0, .int .i64 a0_1, .int .i64 a0_2, .int .i64 a0_3, .int .i64 a0_4, .int .i64 a0_5, .int .i64 a0_6, .int .i64 a0_7, .int .i64 a0_8, .int .i64 a0_9, .bool a0_10, .int .i64 a0_11] 25 (0, 0)) (by (with_reducible repeat (first | refine blk_drewN ?_ _ | refine blk_drew ?_ | refine blk_alloc ?_ _)); exact BK166.out) hb); have n2_ := Aside0.mk (below_step (by repeat (first | (with_reducible first | exact HB.out | apply below_alloc | apply pw_below_drewN | apply below_drew1 | refine below_set ?_ GE166.out) | exact HB.out)) hb); clear BK166; clear HB; have HO185 := n0_; have BK166 := n1_; have HB := n2_; clear n0_ n1_ n2_; clear hb ho45; have hcz46_0 : w44.cell? ⟨gb166, 0, none⟩ = some (.int .i64 a0_0) := (blk_cell BK166.out 0).trans rfl; have hcz46_1 : w44.cell? ⟨gb166, 1, none⟩ = some (.int .i64 a0_1) := (blk_cell BK166.out 1).trans rfl; have hcz46_2 : w44.cell? ⟨gb166, 2, none⟩ = some (.int .i64 a0_2) := (blk_cell BK166.out 2).trans rfl; have hcz46_3 : w44.cell? ⟨gb166, 3, none⟩ = some (.int .i64 a0_3) := (blk_cell BK166.out 3).trans rfl; have hcz46_4 : w44.cell? ⟨gb166, 4, none⟩ = some (.int .i64 a0_4) := (blk_cell BK166.out 4).trans rfl; have hcz46_5 : w44.cell? ⟨gb166, 5, none⟩ = some (.int .i64 a0_5) := (blk_cell BK166.out 5).trans rfl; have hcz46_6 : w44.cell? ⟨gb166, 6, none⟩ = some (.int .i64 a0_6) := (blk_cell BK166.out 6).trans rfl; have hcz46_7 : w44.cell? ⟨gb166, 7, none⟩ = some (.int .i64 a0_7) := (blk_cell BK166.out 7).trans rfl; have hcz46_8 : w44.cell? ⟨gb166, 8, none⟩ = some (.int .i64 a0_8) := (blk_cell BK166.out 8).trans rfl; have hcz46_9 : w44.cell? ⟨gb166, 9, none⟩ = some (.int .i64 a0_9) := (blk_cell BK166.out 9).trans rfl; have hcz46_10 : w44.cell? ⟨gb166, 10, none⟩ = some (.bool a0_10) := (blk_cell BK166.out 10).trans rfl; have hcz46_11 : w44.cell? ⟨gb166, 11, none⟩ = some (.int .i64 a0_11) := (blk_cell BK166.out 11).trans rfl; have hfz46_0 := blk_frozen BK166.out 0; have hfz46_1 := blk_frozen BK166.out 1; have hfz46_2 := blk_frozen BK166.out 2; have hfz46_3 := blk_frozen BK166.out 3; have hfz46_4 := blk_frozen BK166.out 4; have hfz46_5 := blk_frozen BK166.out 5; have hfz46_6 := blk_frozen BK166.out 6; have hfz46_7 := blk_frozen BK166.out 7; have hfz46_8 := blk_frozen BK166.out 8; have hfz46_9 := blk_frozen BK166.out 9; have hfz46_10 := blk_frozen BK166.out 10; have hfz46_11 := blk_frozen BK166.out 11; obtain ⟨Ao47, co47, eo47⟩ := Kd.R_slice HO185.out; subst eo47; have p186 : 0 ≤ (a0_0 : Int) := of_decide_eq_true (by first | (with_reducible assumption) | assumption); have q186 : a0_0 < (y183.length : Int) := of_decide_eq_true (by first | (with_reducible assumption) | assumption); obtain ⟨ad186, e186, hx186_0⟩ := Kd.at_string (Kd.R_reads' HO185.out).2.2 a0_0 p186 q186; cases e186; replace p186 := eq_true p186; replace q186 := eq_true q186))
                    go_ret
                    exact ⟨by first | rfl | (simp [errW_none, errW_some] <;> rfl) | (simp [*, errW_none, errW_some] <;> rfl), by repeat (first | (with_reducible first | exact HB.out | apply below_alloc | apply pw_below_drewN | apply below_drew1 | refine below_set ?_ GE166.out) | exact HB.out)⟩
                · rw [if_neg c36] at H
                  exact absurd H (by simp)
              · rw [if_neg c35] at H
                exact absurd H (by simp)

end Go.Proofs.YthniclbmpeklmaaDoor.KEv
namespace Go.Proofs.YthniclbmpeklmaaDoor.KEvP
open Go.RowKit Go.Proofs.YthniclbmpeklmaaDoorW.PrintWords Go.Proofs.YthniclbmpeklmaaDoorW.PrintLast Go.Proofs.YthniclbmpeklmaaDoorW.PrintMore Go.Proofs.YthniclbmpeklmaaDoor.KEv Go.Proofs.YthniclbmpeklmaaDoor.Ev
set_option linter.unusedVariables false
set_option linter.unusedSimpArgs false
theorem line_is {k wk op hn hg nn ng t a u : Int} {y : Bool} {er : Int} (h : fitB wk hn hg nn ng t a u er = true) : lineO k wk op hn hg nn ng t a u y er = some (lineB k wk op hn hg nn ng t a u y er) := by
  rw [lineO, if_pos h]
theorem byt_list (l : List UInt8) : (byt l).toList = l := by
  have h : (byt l).toList = (byt l).data.toList := by first | exact ByteArray.toList_eq _ | simp [ByteArray.toList_eq]
  rw [h]
  rfl
theorem lineB_right {k wk op hn hg nn ng t a u : Int} {y : Bool} {er : Int} (h : evRight k wk op hn hg nn ng t a u y er = true) : lineB k wk op hn hg nn ng t a u y er = byt (textW k wk op hn hg nn ng t a u y er) := if_pos h
theorem speaks_is : knelllaw11_speaks.f = some true := by
  unfold knelllaw11_speaks.f event_Line.f
  rw [line_is (by decide), Option.bind_some, lineB_right (by decide), byt_list]
  have e : textW 2 1 1 0 0 0 0 5 0 7 false 0 = [105, 110, 118, 111, 107, 101, 32, 49, 32, 115, 116, 97, 114, 116, 32, 53, 32, 48, 32, 55] := by
    have d : ∀ u : Nat, u < 10 → Lib.decDigits u = [UInt8.ofNat (48 + u)] := fun u h => by rw [Lib.decDigits, dif_pos h]
    have i1 : Lib.itoa 1 = [49] := (Lib.itoa_nonneg 1).trans (d 1 (by decide))
    have i5 : Lib.itoa 5 = [53] := (Lib.itoa_nonneg 5).trans (d 5 (by decide))
    have i0 : Lib.itoa 0 = [48] := (Lib.itoa_nonneg 0).trans (d 0 (by decide))
    have i7 : Lib.itoa 7 = [55] := (Lib.itoa_nonneg 7).trans (d 7 (by decide))
    simp [textW, restW, kindW, opW, hasH, hasN, hasT, hasA, hasU, hasY, hasE, in3, made, tailW_cons, tailW_nil, i1, i5, i0, i7]
  rw [e]
  rfl
theorem fit_of {wk hn hg nn ng t a u er : Int} (h1 : (Lit.int .i64 wk).wf = true) (h2 : (Lit.int .i64 hn).wf = true) (h3 : (Lit.int .i64 hg).wf = true) (h4 : (Lit.int .i64 nn).wf = true) (h5 : (Lit.int .i64 ng).wf = true)
    (h6 : (Lit.int .i64 t).wf = true) (h7 : (Lit.int .i64 a).wf = true) (h8 : (Lit.int .i64 u).wf = true) (h9 : (Lit.int .i64 er).wf = true) : fitB wk hn hg nn ng t a u er = true := by
  have f : ∀ {n : Int}, (Lit.int .i64 n).wf = true → bbB n = true := fun {n} h => by
    simp [Lit.wf] at h
    simp [bbB]
    exact h
  simp [fitB, f h1, f h2, f h3, f h4, f h5, f h6, f h7, f h8, f h9]
theorem EventTells (k wk op hn hg nn ng t a u : Int) (y : Bool) (er : Int) (h : fitB wk hn hg nn ng t a u er = true) : knelllaw11_EventTells.f k wk op hn hg nn ng t a u y er = some true := by
  unfold knelllaw11_EventTells.f
  rw [speaks_is, Option.bind_some, if_pos rfl]
  unfold knelllaw11_Of.f event_Right.f knellref11_Right.f event_Line.f knellref11_Line.f
  simp only [Option.bind_some]
  rw [if_pos (by simp), line_is h]
  simp only [Option.bind_some, beq_self_eq_true]
theorem EventUnlike (k wk op hn hg nn ng t a u : Int) (y : Bool) (er : Int) (k' wk' op' hn' hg' nn' ng' t' a' u' : Int) (y' : Bool) (er' : Int) (h : fitB wk hn hg nn ng t a u er = true) (h' : fitB wk' hn' hg' nn' ng' t' a' u' er' = true) :
    ∃ m, knelllaw11_EventUnlike.f m k wk op hn hg nn ng t a u y er k' wk' op' hn' hg' nn' ng' t' a' u' y' er' = some true := by
  refine ⟨1, ?_⟩
  unfold knelllaw11_EventUnlike.f
  rw [speaks_is, Option.bind_some, if_pos rfl]
  unfold knellref11_Right.f
  simp only [Option.bind_some]
  have j0 : ∀ q : Bool, (q = false → evRight k wk op hn hg nn ng t a u y er = true ∧ evRight k' wk' op' hn' hg' nn' ng' t' a' u' y' er' = true) →
      knelllaw11_EventUnlike.j0 1 q k wk op hn hg nn ng t a u y er k' wk' op' hn' hg' nn' ng' t' a' u' y' er' = some true := fun q hq => by
    simp only [knelllaw11_EventUnlike.j0]
    cases q with
    | true => rw [if_pos rfl, speaks_is]; rfl
    | false =>
      obtain ⟨r, r'⟩ := hq rfl
      rw [if_neg (by decide)]
      unfold knelllaw11_Of.f event_Line.f
      simp only [Option.bind_some]
      rw [line_is h, line_is h']
      simp only [Option.bind_some]
      rw [lineB_right r, lineB_right r', byt_list, byt_list]
      congr 1
      rw [beq_iff_eq, Bool.eq_iff_iff]
      simp only [beq_iff_eq, Bool.and_eq_true]
      constructor
      · intro e
        obtain ⟨e1, e2, e3, e4, e5, e6, e7, e8, e9, e10, e11, e12⟩ := textW_inj r r' e
        exact ⟨e1, e2, e3, ⟨e4, e5⟩, ⟨e6, e7⟩, e8, e9, e10, e11, e12⟩
      · rintro ⟨rfl, rfl, rfl, ⟨rfl, rfl⟩, ⟨rfl, rfl⟩, rfl, rfl, rfl, rfl, rfl⟩
        rfl
  cases r : evRight k wk op hn hg nn ng t a u y er with
  | false => rw [if_neg (by decide)]; exact j0 true (fun e => by cases e)
  | true =>
    rw [if_pos rfl]
    cases r' : evRight k' wk' op' hn' hg' nn' ng' t' a' u' y' er' with
    | false => exact j0 true (fun e => by cases e)
    | true => exact j0 false (fun _ => ⟨r, r'⟩)
/-- A text's byte. -/
theorem bt_byt (l : List UInt8) (i : Nat) (h : i < l.length) : bt (byt l) (i : Int) = ((l[i]).toNat : Int) := by
  first
  | (unfold bt; rw [dif_pos (by exact h)]; rfl)
  | (unfold bt; simp [byt, h]; rfl)
  | (simp [bt, byt, h])
theorem byt_size (l : List UInt8) : (byt l).size = l.length := by simp [byt, ByteArray.size]
theorem w64 {x : Int} (h0 : -9223372036854775808 ≤ x) (h1 : x ≤ 9223372036854775807) : wrap64 x = x := by unfold wrap64; omega
/-- A kind's name with a blank behind it. -/
theorem kind_name {k wk op : Int} (h : kindB k wk op = true) : 1 ≤ k ∧ k ≤ 5 ∧ rdOf ByteArray.empty ([(⟨#[]⟩ : ByteArray), (⟨#[116, 105, 99, 107, 32]⟩ : ByteArray), (⟨#[105, 110, 118, 111, 107, 101, 32]⟩ : ByteArray), (⟨#[112, 111, 105, 110, 116, 32]⟩ : ByteArray), (⟨#[102, 105, 114, 101, 32]⟩ : ByteArray), (⟨#[114, 101, 116, 117, 114, 110, 32]⟩ : ByteArray)] : List ByteArray) k = byt (kindW k ++ [32]) := by
  rcases kind_cases h with ⟨rfl, _⟩ | ⟨rfl, _⟩ | ⟨rfl, _⟩ | ⟨rfl, _⟩ | ⟨rfl, _⟩ <;> exact ⟨by decide, by decide, rfl⟩
theorem rest_ne {k wk op hn hg nn ng t a u : Int} {y : Bool} {er : Int} (h : kindB k wk op = true) : ∃ x l, restW k wk op hn hg nn ng t a u y er = x :: l := by
  by_cases hk : k = 1
  · rcases kind_cases h with c | c | c | c | c <;> try omega
    obtain ⟨-, rfl, -⟩ := c
    exact ⟨Lib.itoa t, [], by subst hk; simp [restW, hasH, hasN, hasT, hasA, hasU, hasY, hasE, in3, made]⟩
  · exact ⟨Lib.itoa wk, _, by rw [restW, if_neg hk]; simp only [List.append_assoc, List.cons_append]; rfl⟩
theorem words_loop (l : List UInt8) (hl : l.length ≤ 1000) (hf : Fine l) (k wk op hn hg nn ng t a u : Int) (y : Bool) (er : Int) (hk : kindB k wk op = true) (hp : ∃ r, l = kindW k ++ 32 :: r ∧ r ≠ []) :
    ∀ (d m i : Nat), i + d = l.length → d < m → knelllaw11_EventWords.l0 m (byt l) ((byt l).size : Int) i k wk op hn hg nn ng t a u y er = some true := by
  intro d
  induction d with
  | zero =>
    intro m i hi hm
    obtain ⟨m, rfl⟩ : ∃ q, m = q + 1 := ⟨m - 1, by omega⟩
    simp only [knelllaw11_EventWords.l0]
    rw [byt_size, if_neg (by omega), Option.bind_some]
    obtain ⟨h1, h5, hn⟩ := kind_name hk
    obtain ⟨r, hr, hr0⟩ := hp
    have hlen : 0 < r.length := List.length_pos_iff.2 hr0
    have hll : l.length = (kindW k).length + 1 + r.length := by rw [hr]; simp; omega
    rw [if_pos (by omega), if_pos (by simp; omega), hn, byt_size]
    have hnl : (kindW k ++ [32]).length = (kindW k).length + 1 := by simp
    rw [hnl, if_pos (by omega), if_pos (by omega), if_pos (by omega)]
    congr 1
    rw [beq_iff_eq, byt_list]
    have e : ((byt l).extract 0 ((((kindW k).length + 1 : Nat) : Int) : Int).toNat) = byt (kindW k ++ [32]) := by
      apply ByteArray.ext
      rw [ByteArray.data_extract]
      show l.toArray.extract 0 _ = (kindW k ++ [32]).toArray
      rw [hr]
      rw [Int.toNat_natCast]
      apply Array.toList_inj.1
      simp [List.extract_eq_take_drop, List.take_append, List.take_of_length_le]
    rw [e, byt_list]
  | succ d ih =>
    intro m i hi hm
    obtain ⟨m, rfl⟩ : ∃ q, m = q + 1 := ⟨m - 1, by omega⟩
    have hil : i < l.length := by omega
    simp only [knelllaw11_EventWords.l0]
    rw [byt_size, if_pos (by omega), if_pos (by omega), if_pos (by omega), bt_byt l i hil]
    have h10 : ((l[i]).toNat : Int) ≠ 10 := fun e => by
      apply hf.1 _ (List.getElem_mem hil)
      exact UInt8.toNat_inj.1 (by have : (10 : UInt8).toNat = 10 := rfl; omega)
    rw [if_neg h10]
    have nx : knelllaw11_EventWords.l0 m (byt l) (l.length : Int) (wrap64 ((i : Int) + 1)) k wk op hn hg nn ng t a u y er = some true := by
      rw [w64 (by omega) (by omega)]
      have := ih m (i + 1) (by omega) (by omega)
      rw [byt_size] at this
      exact this
    by_cases h32 : ((l[i]).toNat : Int) = 32
    · have e32 : l[i] = 32 := UInt8.toNat_inj.1 (by have : (32 : UInt8).toNat = 32 := rfl; omega)
      have q : l[i]? = some 32 := by rw [List.getElem?_eq_getElem hil, e32]
      rw [if_pos h32]
      have i0 : ¬ (i : Int) = 0 := fun e => by
        have e' : i = 0 := by omega
        subst e'
        exact hf.2.1 (by rw [List.head?_eq_getElem?]; exact q)
      have i1 : ¬ i = l.length - 1 := fun e => by
        subst e
        exact hf.2.2.1 (by rw [List.getLast?_eq_getElem?]; exact q)
      have e1 : wrap64 ((i : Int) + 1) = ((i + 1 : Nat) : Int) := by rw [w64 (by omega) (by omega)]; omega
      rw [if_neg i0, if_neg (by rw [w64 (by omega) (by omega)]; omega), e1, if_pos (by omega), if_pos (by omega), bt_byt l (i + 1) (by omega)]
      have h2 : ¬ ((l[i + 1]).toNat : Int) = 32 := fun e => by
        have e' : l[i + 1] = 32 := UInt8.toNat_inj.1 (by have : (32 : UInt8).toNat = 32 := rfl; omega)
        exact hf.2.2.2 i q (by rw [List.getElem?_eq_getElem (by omega), e'])
      rw [if_neg h2, ← e1]
      exact nx
    · rw [if_neg h32]
      exact nx
theorem itoa_len {n : Int} (h : bbB n = true) : (Lib.itoa n).length ≤ 21 := by
  have := BB_of h
  exact Lib.itoa_length_le n this.1 this.2
theorem text_len (k wk op hn hg nn ng t a u : Int) (y : Bool) (er : Int) (h : fitB wk hn hg nn ng t a u er = true) : (textW k wk op hn hg nn ng t a u y er).length ≤ 1000 := by
  simp only [fitB, Bool.and_eq_true] at h
  obtain ⟨⟨⟨⟨⟨⟨⟨⟨h1, h2⟩, h3⟩, h4⟩, h5⟩, h6⟩, h7⟩, h8⟩, h9⟩ := h
  have hk : (kindW k).length ≤ 6 := by
    unfold kindW
    repeat' split
    all_goals decide
  have ho : (opW op).length ≤ 7 := by
    unfold opW
    repeat' split
    all_goals decide
  have hy : (yesW y).length ≤ 3 := by cases y <;> decide
  have l1 := itoa_len h1
  have l6 := itoa_len h6
  have l7 := itoa_len h7
  have l8 := itoa_len h8
  have l9 := itoa_len h9
  have q1 : (hanW hn hg).length ≤ 43 := by
    have a := itoa_len h2
    have b := itoa_len h3
    rw [hanW, List.length_append, List.length_cons]
    omega
  have q2 : (hanW nn ng).length ≤ 43 := by
    have a := itoa_len h4
    have b := itoa_len h5
    rw [hanW, List.length_append, List.length_cons]
    omega
  have w : ∀ (c : Prop) [Decidable c] (x : List UInt8) (b : Nat), x.length ≤ b → (tailW (if c then [x] else [])).length ≤ b + 1 := fun c _ x b hx => by
    split
    · rw [tailW_cons, tailW_nil, List.append_nil, List.length_cons]; omega
    · rw [tailW_nil]; exact Nat.zero_le _
  have w2 : ∀ (c : Prop) [Decidable c] (x : List UInt8) (b : Nat), x.length ≤ b → (tailW (if c then [] else [x])).length ≤ b + 1 := fun c _ x b hx => by
    split
    · rw [tailW_nil]; exact Nat.zero_le _
    · rw [tailW_cons, tailW_nil, List.append_nil, List.length_cons]; omega
  have a1 := w2 (k = 1) _ _ l1
  have a2 := w2 (op = 0) _ _ ho
  have a3 := w (hasH k op = true) _ _ q1
  have a4 := w (hasN k op er = true) _ _ q2
  have a5 := w (hasT k op er = true) _ _ l6
  have a6 := w (hasA k op = true) _ _ l7
  have a7 := w (hasU k op = true) _ _ l8
  have a8 := w (hasY k op = true) _ _ hy
  have a9 := w (hasE k op = true) _ _ l9
  unfold textW restW
  simp only [tailW_app, List.length_append]
  omega
theorem EventWords (k wk op hn hg nn ng t a u : Int) (y : Bool) (er : Int) (h : fitB wk hn hg nn ng t a u er = true) : ∃ m, knelllaw11_EventWords.f m k wk op hn hg nn ng t a u y er = some true := by
  refine ⟨1003, ?_⟩
  unfold knelllaw11_EventWords.f knelllaw11_Of.f event_Line.f
  simp only [Option.bind_some]
  rw [line_is h, speaks_is]
  simp only [Option.bind_some, if_true]
  unfold knellref11_Right.f
  simp only [Option.bind_some]
  cases r : evRight k wk op hn hg nn ng t a u y er with
  | false =>
    simp only [Bool.not_false, knelllaw11_EventWords.j0]
    rw [if_pos trivial, speaks_is, Option.bind_some, if_pos rfl]
    have e : lineB k wk op hn hg nn ng t a u y er = byt [] := by rw [lineB, if_neg (by rw [r]; decide)]; rfl
    rw [e, byt_list]
    rfl
  | true =>
    have hk : kindB k wk op = true := by simp only [evRight, Bool.and_eq_true] at r; exact r.1.1.1.1
    simp only [Bool.not_true, knelllaw11_EventWords.j0]
    rw [if_neg (by decide), lineB_right r]
    obtain ⟨x, l, hx⟩ := rest_ne (hn := hn) (hg := hg) (nn := nn) (ng := ng) (t := t) (a := a) (u := u) (y := y) (er := er) hk
    have hw := restW_word k wk op hn hg nn ng t a u y er x (by rw [hx]; exact List.mem_cons_self ..)
    have hL := text_len k wk op hn hg nn ng t a u y er h
    have := words_loop (textW k wk op hn hg nn ng t a u y er) hL (textW_fine k wk op hn hg nn ng t a u y er) k wk op hn hg nn ng t a u y er hk ⟨x ++ tailW l, by rw [textW, hx, tailW_cons], by intro e; exact hw.1 (List.append_eq_nil_iff.1 e).1⟩ (textW k wk op hn hg nn ng t a u y er).length 1002 0 (by omega) (by omega)
    exact this
end Go.Proofs.YthniclbmpeklmaaDoor.KEvP
namespace Go.Proofs.YthniclbmpeklmaaDoor.Krow
open Go.ChangeShapes Go.WideShapes Go.Deep Go.Proofs.YthniclbmpeklmaaDoorW.PrintWords

/-- One cell of plain data. -/
inductive Leaf where
  | int (k : IntKind)
  | bool
def Leaf.ok : Leaf → Value → Prop
  | .int k, v => ∃ n, v = .int k n ∧ (Lit.int k n).wf = true
  | .bool, v => ∃ b, v = .bool b
def Leaves : List Leaf → List Value → Prop
  | [], [] => True
  | l :: ls, v :: vs => l.ok v ∧ Leaves ls vs
  | _, _ => False
theorem Leaves.length : ∀ {ls : List Leaf} {vs : List Value}, Leaves ls vs → vs.length = ls.length
  | [], [], _ => rfl
  | _ :: _, _ :: _, h => by simp [Leaves.length h.2]
theorem Leaves.append : ∀ {a b : List Leaf} {vs ws : List Value}, Leaves a vs → Leaves b ws → Leaves (a ++ b) (vs ++ ws)
  | [], _, [], _, _, h => h
  | _ :: _, _, _ :: _, _, h, h' => ⟨h.1, Leaves.append h.2 h'⟩
theorem Leaves.int {k : IntKind} {ls : List Leaf} {vs : List Value} (h : Leaves (.int k :: ls) vs) : ∃ n r, vs = .int k n :: r ∧ (Lit.int k n).wf = true ∧ Leaves ls r := by
  match vs, h with
  | _ :: r, ⟨⟨n, rfl, hw⟩, h⟩ => exact ⟨n, r, rfl, hw, h⟩
theorem Leaves.boole {ls : List Leaf} {vs : List Value} (h : Leaves (.bool :: ls) vs) : ∃ b r, vs = .bool b :: r ∧ Leaves ls r := by
  match vs, h with
  | _ :: r, ⟨⟨b, rfl⟩, h⟩ => exact ⟨b, r, rfl, h⟩
theorem Leaves.nil {vs : List Value} (h : Leaves [] vs) : vs = [] := by
  match vs, h with
  | [], _ => rfl

theorem collect {α : Type} {p : Nat → α → Prop} {len : Nat} (key : ∀ i, i < len → ∃ x : α, p i x) : ∃ l : List α, l.length = len ∧ ∀ i x, l[i]? = some x → p i x := by
  induction len with
  | zero => exact ⟨[], rfl, fun i x h => by simp at h⟩
  | succ len ih =>
    obtain ⟨l, hl, hx⟩ := ih (fun i hi => key i (by omega))
    obtain ⟨x, hp⟩ := key len (by omega)
    refine ⟨l ++ [x], by simp [hl], fun i y hy => ?_⟩
    by_cases hi : i < len
    · rw [List.getElem?_append_left (by omega)] at hy
      exact hx i y hy
    · rw [List.getElem?_append_right (by omega)] at hy
      have : i - l.length = 0 := by
        have := (List.getElem?_eq_some_iff.1 hy).1
        simp at this
        omega
      rw [this] at hy
      obtain rfl : x = y := by simpa using hy
      obtain rfl : i = len := by omega
      exact hp

/-- The cells of a struct's fields, one behind the other. -/
def fieldsOf (f : TypeId → Option (List Leaf)) (P : Program) : List Field → Nat → Option (List Leaf)
  | [], _ => some []
  | x :: r, off => (f x.type).bind fun ls => if x.offset = off ∧ P.cellsOf x.type = ls.length then (fieldsOf f P r (off + ls.length)).map (ls ++ ·) else none
/-- A type of plain data: its cells. -/
def plainOf (P : Program) : Nat → TypeId → Option (List Leaf)
  | 0, _ => none
  | n + 1, t => match P.underlying t with
    | some (.int k) => some [.int k]
    | some .bool => some [.bool]
    | some (.struct fs) => (fieldsOf (plainOf P n) P fs.toList 0).bind fun ls => if P.cellsOf t = ls.length then some ls else none
    | some (.array m e) => (plainOf P n e).bind fun ls => if P.cellsOf e = ls.length ∧ P.cellsOf t = m * ls.length then some ((List.replicate m ls).flatten) else none
    | _ => none

section
variable {H : Type} {enc : TypeId × Value → H} {P : Program} {w : World} {base : Nat} {spare : Nat → Bool} {held : Bool}

theorem fields_leaves {n : Nat} (ih : ∀ (t : TypeId) (ls : List Leaf) (fuel : Nat) (cs : List Value) (x : DataW H × List MemPlace), plainOf P n t = some ls → DataW.trod enc P w base spare held fuel t cs = some x → Leaves ls cs) (cs : List Value) (m : Nat) :
    ∀ (fs : List Field) (off : Nat) (ls : List Leaf), (∀ (i : Nat) (f : Field), fs[i]? = some f → ∃ x, DataW.trod enc P w base spare held m f.type ((cs.drop f.offset).take (P.cellsOf f.type)) = some x) →
      fieldsOf (plainOf P n) P fs off = some ls → Leaves ls ((cs.drop off).take ls.length) := by
  intro fs
  induction fs with
  | nil =>
    intro off ls _ h
    simp only [fieldsOf, Option.some.injEq] at h
    subst h
    simp [Leaves]
  | cons f r ihr =>
    intro off ls hx h
    simp only [fieldsOf] at h
    obtain ⟨l1, h1, h⟩ := Option.bind_eq_some_iff.1 h
    by_cases hc : f.offset = off ∧ P.cellsOf f.type = l1.length
    · rw [if_pos hc] at h
      obtain ⟨l2, h2, rfl⟩ := Option.map_eq_some_iff.1 h
      obtain ⟨x, hx0⟩ := hx 0 f rfl
      rw [hc.1, hc.2] at hx0
      have a1 := ih f.type l1 m _ x h1 hx0
      have a2 := ihr (off + l1.length) l2 (fun i g hg => hx (i + 1) g hg) h2
      have e : (cs.drop off).take (l1 ++ l2).length = (cs.drop off).take l1.length ++ (cs.drop (off + l1.length)).take l2.length := by
        rw [List.length_append, List.take_add, List.drop_drop]
      rw [e]
      exact a1.append a2
    · rw [if_neg hc] at h
      cases h

theorem blocks_leaves (ls : List Leaf) (cs : List Value) : ∀ (m off : Nat), (∀ i, i < m → Leaves ls ((cs.drop ((off + i) * ls.length)).take ls.length)) → Leaves ((List.replicate m ls).flatten) ((cs.drop (off * ls.length)).take (m * ls.length)) := by
  intro m
  induction m with
  | zero => intro off _; simp [Leaves]
  | succ m ih =>
    intro off h
    have a1 := h 0 (by omega)
    have a2 := ih (off + 1) (fun i hi => by have := h (i + 1) (by omega); rw [show off + 1 + i = off + (i + 1) by omega]; exact this)
    rw [Nat.add_zero] at a1
    rw [List.replicate_succ, List.flatten_cons, show (m + 1) * ls.length = ls.length + m * ls.length by rw [Nat.add_mul]; omega, List.take_add, List.drop_drop, show off * ls.length + ls.length = (off + 1) * ls.length by rw [Nat.add_mul]; omega]
    exact a1.append a2

/-- WHAT READS AS PLAIN DATA, CELL BY CELL. -/
theorem plain_trod : ∀ (n : Nat) (t : TypeId) (ls : List Leaf) (fuel : Nat) (cs : List Value) (x : DataW H × List MemPlace), plainOf P n t = some ls → DataW.trod enc P w base spare held fuel t cs = some x → Leaves ls cs := by
  intro n
  induction n with
  | zero => intro t ls fuel cs x h; cases h
  | succ n ih =>
    intro t ls fuel cs x h hx
    unfold plainOf at h
    split at h
    · rename_i k hu
      obtain rfl := Option.some.inj h
      obtain ⟨a, rfl, _, hw⟩ := DataW.trod_int hu hx
      exact ⟨⟨a, rfl, hw⟩, trivial⟩
    · rename_i hu
      obtain rfl := Option.some.inj h
      obtain ⟨b, rfl, _⟩ := DataW.trod_bool hu hx
      exact ⟨⟨b, rfl⟩, trivial⟩
    · rename_i fs hu
      obtain ⟨l, h1, h⟩ := Option.bind_eq_some_iff.1 h
      by_cases hc : P.cellsOf t = l.length
      · rw [if_pos hc] at h
        obtain rfl := Option.some.inj h
        obtain ⟨xs, m, _, _, hl, hlen, hf⟩ := DataW.trod_struct hu hx
        have := fields_leaves ih cs m fs.toList 0 l (fun i f hi => by
          have hi' : fs[i]? = some f := by simpa using hi
          rw [hf i f hi']
          have : i < xs.length := by rw [hlen]; exact (Array.getElem?_eq_some_iff.1 hi').1
          exact ⟨_, List.getElem?_eq_getElem this⟩) h1
        rw [List.drop_zero, List.take_of_length_le (by omega)] at this
        exact this
      · rw [if_neg hc] at h
        cases h
    · rename_i m e hu
      obtain ⟨l, h1, h⟩ := Option.bind_eq_some_iff.1 h
      by_cases hc : P.cellsOf e = l.length ∧ P.cellsOf t = m * l.length
      · rw [if_pos hc] at h
        obtain rfl := Option.some.inj h
        obtain ⟨xs, q, _, _, hl, hlen, hf⟩ := DataW.trod_array hu hx
        have := blocks_leaves l cs m 0 (fun i hi => by
          have h2 := hf i hi
          rw [List.getElem?_eq_getElem (by omega), hc.1] at h2
          rw [Nat.zero_add]
          exact ih e l q _ _ h1 h2)
        rw [Nat.zero_mul, List.drop_zero, List.take_of_length_le (by omega)] at this
        exact this
      · rw [if_neg hc] at h
        cases h
    · cases h

/-- An argument that is an array or a struct of plain data: its value written out. -/
theorem open_plain {r : Reach} {b0 : Nat} {t : TypeId} {v : Value} {d : DataW H} {ps : List MemPlace} {n : Nat} {ls : List Leaf} (hp : plainOf P n t = some ls) (ha : (match P.underlying t with | some (.struct _) | some (.array _ _) => true | _ => false) = true)
    (hv : Value.okWide P w r b0 t v) (h : DataW.Trod enc P w base spare held t v d ps) : ∃ cs : List Value, v = .agg cs.toArray ∧ Leaves ls cs := by
  obtain ⟨fuel, hf⟩ := h
  unfold Value.okWide at hv
  have key : ∃ cs, v = .agg cs := by
    split at hv
    · obtain ⟨cs, h1, _⟩ := hv; exact ⟨cs, h1⟩
    · obtain ⟨cs, h1, _⟩ := hv; exact ⟨cs, h1⟩
    · rename_i h1 h2
      split at ha
      · rename_i fs he; exact absurd he (h1 fs)
      · rename_i a e he; exact absurd he (h2 a e)
      · cases ha
  obtain ⟨cs, rfl⟩ := key
  have h2 := plain_trod n t ls fuel _ _ hp hf
  exact ⟨cs.toList, by simp, by simpa [Value.cells] using h2⟩

/-- An argument that is a slice of plain data: its elements, as the print's words have them. -/
theorem open_rows {α : Type} (D : Kd α) (good : α → Prop) {r : Reach} {b0 : Nat} {t e : TypeId} {v : Value} {d : DataW H} {ps : List MemPlace} {n : Nat} {ls : List Leaf} (hu : P.underlying t = some (.slice e)) (hp : plainOf P n e = some ls) (hc : P.cellsOf e = ls.length) (hsz : D.sz = ls.length)
    (mk : ∀ cs : List Value, Leaves ls cs → ∃ x : α, D.K w x cs ∧ good x)
    (hv : Value.okWide P w r b0 t v) (h : DataW.Trod enc P w base spare held t v d ps) :
    ∃ (A : Option Addr) (c : Nat) (l : List α), v = .slice A l.length c ∧ l.length ≤ c ∧ l.length ≤ 9223372036854775807 ∧ Kd.C D w A l.length l ∧ ∀ x ∈ l, good x := by
  obtain ⟨A, len, cap, rfl⟩ := okWide_slice hu hv
  obtain ⟨fuel, hf⟩ := h
  rcases open_slice hu hf with ⟨hcs, _⟩ | ⟨a, len', cap', m, q, Ds, Pl, hcs, _, hl, hm, hmm, _, hi⟩
  · simp [Value.cells] at hcs
    obtain ⟨rfl, rfl, rfl⟩ := hcs
    exact ⟨none, 0, [], rfl, Nat.le_refl _, by simp, ⟨rfl, by simp, fun h => absurd h (by simp)⟩, by simp⟩
  · simp [Value.cells] at hcs
    obtain ⟨rfl, rfl, rfl⟩ := hcs
    have hlm : len ≤ m := by
      rw [hmm]
      split
      · exact hl
      · exact Nat.le_refl _
    have key : ∀ i, i < len → ∃ (x : α) (cs : List Value), D.K w x cs ∧ good x ∧ cs.length = ls.length ∧ ∀ j u, cs[j]? = some u → w.cell? (a.add (i * ls.length + j)) = some u := by
      intro i hil
      obtain ⟨cs', h1, h2⟩ := hi i (by omega)
      rw [hc] at h1
      obtain ⟨_, hlen, hcell⟩ := World.cells?_some h1
      obtain ⟨x, hx, hg⟩ := mk cs' (plain_trod n e ls q cs' _ hp h2)
      refine ⟨x, cs', hx, hg, hlen, fun j u hu => ?_⟩
      have hj : j < ls.length := by rw [← hlen]; exact (List.getElem?_eq_some_iff.1 hu).1
      rw [← Go.Deep.add_add, hcell j hj, hu]
    have ch := collect key
    obtain ⟨l, rfl, hx⟩ := ch
    have hm' : cap ≤ 9223372036854775807 := hm
    refine ⟨some a, cap, l, rfl, hl, by omega, ⟨rfl, by omega, fun _ => ⟨a, rfl, fun j p hj => ?_⟩⟩, fun x hxl => ?_⟩
    · obtain ⟨cs, h1, _, h3, h4⟩ := hx j p hj
      refine ⟨cs, by rw [h3, hsz], h1, ?_⟩
      rw [hsz]
      exact h4
    · obtain ⟨i, hi⟩ := List.mem_iff_getElem?.1 hxl
      obtain ⟨_, _, h2, _⟩ := hx i x hi
      exact h2
end
end Go.Proofs.YthniclbmpeklmaaDoor.Krow
namespace Go.Proofs.YthniclbmpeklmaaDoor.Ev
open Go.RowKit
theorem gPow : Tryd.prog.globalNamed "internal/strconv.uint64pow10" = some 0 := by kernel_rfl
theorem gPowT : (Tryd.prog.globals[0]?).map (·.type) = some 77 := by kernel_rfl
/-- Off the list of a row: the table. -/
theorem tab_of_laid {W : World} (h : laidMet Tryd.prog [("math/bits.deBruijn32tab", Rows.laid_math_bits_deBruijn32tab), ("math/bits.deBruijn64tab", Rows.laid_math_bits_deBruijn64tab), ("internal/strconv.uint64pow10", Rows.laid_internal_strconv_uint64pow10)] W) : Tab W := by
  obtain ⟨ps, ⟨_, _, _, _, _, _, _, _, _, _, ⟨_, _, _, _, _, _, _, _, _, _, ⟨g', t', cs, fuel, p, q, hg', ht', hvar, hd, _, _⟩, _⟩, _⟩, _⟩ := h
  obtain rfl := Option.some.inj (gPow.symm.trans hg')
  obtain rfl := Option.some.inj (gPowT.symm.trans ht')
  unfold Tab Lib.TabIs
  have hd' : DataW.trod (fun _ => ()) Tryd.prog W _ _ _ fuel 77 cs.toList = some (Lib.tabData .u64 Lib.pow10Tab, p) := hd
  rw [hvar, ← Lib.cells_of_tab Tryd.underlying77 Tryd.underlying70 (by kernel_rfl) (by kernel_rfl) hd']
end Go.Proofs.YthniclbmpeklmaaDoor.Ev
namespace Go.Proofs.YthniclbmpeklmaaDoor
end Go.Proofs.YthniclbmpeklmaaDoor
