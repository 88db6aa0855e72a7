/- What is proved: a part of the way to the statement JudgeNamesSaid: KJux1, JuT, JuW, JuX, Krow; no conditions. Put together by a program of this session (claimv.py). -/
import Derived.ChangeArms
import Derived.WideShapes
import Derived.OpenShut
import Derived.Deep.Slices
import Derived.Test.YthniclbmpeklmaaVjn5
section
namespace Go.Proofs.Ythniclbmpeklmaa.KJu
open Go.RowKit Go.Proofs.YthniclbmpeklmaaW.PrintWords Go.Proofs.YthniclbmpeklmaaW.PrintLast Go.Proofs.YthniclbmpeklmaaW.PrintMore
attribute [local go_sem] max2_int min2_int max_two min_two max_three min_three max_four min_four   -- for this text's walks alone
set_option linter.unusedVariables false
set_option linter.unusedSimpArgs false
def knelllaw11_Of.f (a0_0 : Int) (a0_1 : Int) (a0_2 : Int) (a0_3 : Int) (a0_4 : Int) (a0_5 : Int) (a0_6 : Int) (a0_7 : Int) (a0_8 : Int) (a0_9 : Int) (a0_10 : Bool) (a0_11 : Int) : Option (Int × Int × Int × Int × Int × Int × Int × Int × Int × Int × Bool × Int) := some (a0_0, a0_1, a0_2, a0_3, a0_4, a0_5, a0_6, a0_7, a0_8, a0_9, a0_10, a0_11)
set_option maxHeartbeats 8000000 in
set_option maxRecDepth 100000 in
theorem knelllaw11_Of.calls (a0_0 : Int) (a0_1 : Int) (a0_2 : Int) (a0_3 : Int) (a0_4 : Int) (a0_5 : Int) (a0_6 : Int) (a0_7 : Int) (a0_8 : Int) (a0_9 : Int) (a0_10 : Bool) (a0_11 : Int) (r1 : Int) (r2 : Int) (r3 : Int) (r4 : Int) (r5 : Int) (r6 : Int) (r7 : Int) (r8 : Int) (r9 : Int) (r10 : Int) (r11 : Bool) (r12 : Int) (w : World) (h : knelllaw11_Of.f a0_0 a0_1 a0_2 a0_3 a0_4 a0_5 a0_6 a0_7 a0_8 a0_9 a0_10 a0_11 = some (r1, r2, r3, r4, r5, r6, r7, r8, r9, r10, r11, r12)) :
    Calls Try.prog 30 #[.agg #[.int .i64 a0_0, .int .i64 a0_1, .int .i64 a0_2, .int .i64 a0_3, .int .i64 a0_4, .int .i64 a0_5, .int .i64 a0_6, .int .i64 a0_7, .int .i64 a0_8, .int .i64 a0_9, .bool a0_10, .int .i64 a0_11]] w fun e w' => e = .returned (.agg #[.int .i64 r1, .int .i64 r2, .int .i64 r3, .int .i64 r4, .int .i64 r5, .int .i64 r6, .int .i64 r7, .int .i64 r8, .int .i64 r9, .int .i64 r10, .bool r11, .int .i64 r12]) ∧ Below w.heap.size w w' := by
  have hu50 := Try.underlying50
  have hu54 := Try.underlying54
  have hu34 := Try.underlying34
  have HB := Aside0.mk (Below.refl w.heap.size w)
  have H : (some (a0_0, a0_1, a0_2, a0_3, a0_4, a0_5, a0_6, a0_7, a0_8, a0_9, a0_10, a0_11)) = some (r1, r2, r3, r4, r5, r6, r7, r8, r9, r10, r11, r12) := h
  clear h
  simp only [Option.some.injEq, Prod.mk.injEq] at H
  obtain ⟨rfl, rfl, rfl, rfl, rfl, rfl, rfl, rfl, rfl, rfl, rfl, rfl⟩ := H
  go_enter Try.func30, Try.ntmps30
  go_wp2_with (first | ((with_reducible refine gate_dst (N := 1) rfl ?_); refine box_event ?hg (N := 1) ?hd (cs := #[.int .i64 a0_0, .int .i64 a0_1, .int .i64 a0_2, .int .i64 a0_3, .int .i64 a0_4, .int .i64 a0_5, .int .i64 a0_6, .int .i64 a0_7, .int .i64 a0_8, .int .i64 a0_9, .bool a0_10, .int .i64 a0_11]) (t := 50) ?hr ?_; (case hd => rfl); (case hg => rfl); (case hr => first | (go_simp; done) | (go_simp; rfl)); intro gb101 hg w2 hbox hb; have n0_ := Aside0.mk (below_step (by repeat (first | (with_reducible first | exact HB.out | apply below_alloc | apply pw_below_drewN | apply below_drew1) | exact HB.out)) hb); have n1_ := Aside0.mk (hbox); have n2_ := Aside0.mk ((by rw [hg]; exact (below_size (by repeat (first | (with_reducible first | exact HB.out | apply below_alloc | apply pw_below_drewN | apply below_drew1) | exact HB.out))) : w.heap.size ≤ gb101)); have n3_ := Aside0.mk ((by rw [hg]; exact (below_size (by repeat (first | (with_reducible first | exact HB.out | apply below_alloc | apply pw_below_drewN | apply below_drew1) | exact HB.out))) : w.heap.size ≤ gb101)); clear HB; have HB := n0_; have BK101 := n1_; have GW101 := n2_; have GE101 := n3_; clear n0_ n1_ n2_ n3_; clear hb hbox hg) | ((with_reducible refine gate_dst (N := 2) rfl ?_); refine box_event ?hg (N := 2) ?hd (cs := #[.int .i64 0, .int .i64 0, .int .i64 0, .int .i64 0, .int .i64 0, .int .i64 0, .int .i64 0, .int .i64 0, .int .i64 0, .int .i64 0, .bool false, .int .i64 0]) (t := 54) ?hr ?_; (case hd => rfl); (case hg => rfl); (case hr => first | (go_simp; done) | (go_simp; rfl)); intro gb102 hg w3 hbox hb; have n0_ := Aside0.mk (blk_below (g := gb101) (o := .cells #[.int .i64 a0_0, .int .i64 a0_1, .int .i64 a0_2, .int .i64 a0_3, .int .i64 a0_4, .int .i64 a0_5, .int .i64 a0_6, .int .i64 a0_7, .int .i64 a0_8, .int .i64 a0_9, .bool a0_10, .int .i64 a0_11] 50 (0, 0)) (by (with_reducible repeat (first | refine blk_drewN ?_ _ | refine blk_drew ?_ | refine blk_alloc ?_ _)); exact BK101.out) hb); have n1_ := Aside0.mk (below_step (by repeat (first | (with_reducible first | exact HB.out | apply below_alloc | apply pw_below_drewN | apply below_drew1 | refine below_set ?_ GE101.out) | exact HB.out)) hb); have n2_ := Aside0.mk (hbox); have n3_ := Aside0.mk ((by rw [hg]; exact (below_size (by repeat (first | (with_reducible first | exact HB.out | apply below_alloc | apply pw_below_drewN | apply below_drew1 | refine below_set ?_ GE101.out) | exact HB.out))) : w.heap.size ≤ gb102)); have n4_ := Aside0.mk ((by rw [hg]; exact (below_size (by repeat (first | (with_reducible first | exact HB.out | apply below_alloc | apply pw_below_drewN | apply below_drew1 | refine below_set ?_ GE101.out) | exact HB.out))) : w.heap.size ≤ gb102)); have n5_ := Aside0.mk ((by rw [hg]; exact Nat.ne_of_lt (blk_lt (g := gb101) (o := .cells #[.int .i64 a0_0, .int .i64 a0_1, .int .i64 a0_2, .int .i64 a0_3, .int .i64 a0_4, .int .i64 a0_5, .int .i64 a0_6, .int .i64 a0_7, .int .i64 a0_8, .int .i64 a0_9, .bool a0_10, .int .i64 a0_11] 50 (0, 0)) (by (with_reducible repeat (first | refine blk_drewN ?_ _ | refine blk_drew ?_ | refine blk_alloc ?_ _)); exact BK101.out)) : gb101 ≠ gb102)); have n6_ := Aside0.mk ((by rw [hg]; exact Nat.ne_of_gt (blk_lt (g := gb101) (o := .cells #[.int .i64 a0_0, .int .i64 a0_1, .int .i64 a0_2, .int .i64 a0_3, .int .i64 a0_4, .int .i64 a0_5, .int .i64 a0_6, .int .i64 a0_7, .int .i64 a0_8, .int .i64 a0_9, .bool a0_10, .int .i64 a0_11] 50 (0, 0)) (by (with_reducible repeat (first | refine blk_drewN ?_ _ | refine blk_drew ?_ | refine blk_alloc ?_ _)); exact BK101.out)) : gb102 ≠ gb101)); clear BK101; clear HB; have BK101 := n0_; have HB := n1_; have BK102 := n2_; have GW102 := n3_; have GE102 := n4_; have NB101_102 := n5_; have NB102_101 := n6_; clear n0_ n1_ n2_ n3_ n4_ n5_ n6_; clear hb hbox hg; have hnb4 := NB101_102.out; have hnc4 := NB102_101.out; have hcz5_0 : w3.cell? ⟨gb101, 0, none⟩ = some (.int .i64 a0_0) := (blk_cell BK101.out 0).trans rfl; have hcz5_1 : w3.cell? ⟨gb101, 1, none⟩ = some (.int .i64 a0_1) := (blk_cell BK101.out 1).trans rfl; have hcz5_2 : w3.cell? ⟨gb101, 2, none⟩ = some (.int .i64 a0_2) := (blk_cell BK101.out 2).trans rfl; have hcz5_3 : w3.cell? ⟨gb101, 3, none⟩ = some (.int .i64 a0_3) := (blk_cell BK101.out 3).trans rfl; have hcz5_4 : w3.cell? ⟨gb101, 4, none⟩ = some (.int .i64 a0_4) := (blk_cell BK101.out 4).trans rfl; have hcz5_5 : w3.cell? ⟨gb101, 5, none⟩ = some (.int .i64 a0_5) := (blk_cell BK101.out 5).trans rfl; have hcz5_6 : w3.cell? ⟨gb101, 6, none⟩ = some (.int .i64 a0_6) := (blk_cell BK101.out 6).trans rfl; have hcz5_7 : w3.cell? ⟨gb101, 7, none⟩ = some (.int .i64 a0_7) := (blk_cell BK101.out 7).trans rfl; have hcz5_8 : w3.cell? ⟨gb101, 8, none⟩ = some (.int .i64 a0_8) := (blk_cell BK101.out 8).trans rfl; have hcz5_9 : w3.cell? ⟨gb101, 9, none⟩ = some (.int .i64 a0_9) := (blk_cell BK101.out 9).trans rfl; have hcz5_10 : w3.cell? ⟨gb101, 10, none⟩ = some (.bool a0_10) := (blk_cell BK101.out 10).trans rfl; have hcz5_11 : w3.cell? ⟨gb101, 11, none⟩ = some (.int .i64 a0_11) := (blk_cell BK101.out 11).trans rfl; have hfz5_0 := blk_frozen BK101.out 0; have hfz5_1 := blk_frozen BK101.out 1; have hfz5_2 := blk_frozen BK101.out 2; have hfz5_3 := blk_frozen BK101.out 3; have hfz5_4 := blk_frozen BK101.out 4; have hfz5_5 := blk_frozen BK101.out 5; have hfz5_6 := blk_frozen BK101.out 6; have hfz5_7 := blk_frozen BK101.out 7; have hfz5_8 := blk_frozen BK101.out 8; have hfz5_9 := blk_frozen BK101.out 9; have hfz5_10 := blk_frozen BK101.out 10; have hfz5_11 := blk_frozen BK101.out 11; have hcz6_0 : w3.cell? ⟨gb102, 0, none⟩ = some (.int .i64 0) := (blk_cell BK102.out 0).trans rfl; have hcz6_1 : w3.cell? ⟨gb102, 1, none⟩ = some (.int .i64 0) := (blk_cell BK102.out 1).trans rfl; have hcz6_2 : w3.cell? ⟨gb102, 2, none⟩ = some (.int .i64 0) := (blk_cell BK102.out 2).trans rfl; have hcz6_3 : w3.cell? ⟨gb102, 3, none⟩ = some (.int .i64 0) := (blk_cell BK102.out 3).trans rfl; have hcz6_4 : w3.cell? ⟨gb102, 4, none⟩ = some (.int .i64 0) := (blk_cell BK102.out 4).trans rfl; have hcz6_5 : w3.cell? ⟨gb102, 5, none⟩ = some (.int .i64 0) := (blk_cell BK102.out 5).trans rfl; have hcz6_6 : w3.cell? ⟨gb102, 6, none⟩ = some (.int .i64 0) := (blk_cell BK102.out 6).trans rfl; have hcz6_7 : w3.cell? ⟨gb102, 7, none⟩ = some (.int .i64 0) := (blk_cell BK102.out 7).trans rfl; have hcz6_8 : w3.cell? ⟨gb102, 8, none⟩ = some (.int .i64 0) := (blk_cell BK102.out 8).trans rfl; have hcz6_9 : w3.cell? ⟨gb102, 9, none⟩ = some (.int .i64 0) := (blk_cell BK102.out 9).trans rfl; have hcz6_10 : w3.cell? ⟨gb102, 10, none⟩ = some (.bool false) := (blk_cell BK102.out 10).trans rfl; have hcz6_11 : w3.cell? ⟨gb102, 11, none⟩ = some (.int .i64 0) := (blk_cell BK102.out 11).trans rfl; have hfz6_0 := blk_frozen BK102.out 0; have hfz6_1 := blk_frozen BK102.out 1; have hfz6_2 := blk_frozen BK102.out 2; have hfz6_3 := blk_frozen BK102.out 3; have hfz6_4 := blk_frozen BK102.out 4; have hfz6_5 := blk_frozen BK102.out 5; have hfz6_6 := blk_frozen BK102.out 6; have hfz6_7 := blk_frozen BK102.out 7; have hfz6_8 := blk_frozen BK102.out 8; have hfz6_9 := blk_frozen BK102.out 9; have hfz6_10 := blk_frozen BK102.out 10; have hfz6_11 := blk_frozen BK102.out 11))
  refine bodyPost_ret (results_cell_row rfl _ _ gb102 54 #[.int .i64 a0_0, .int .i64 a0_1, .int .i64 a0_2, .int .i64 a0_3, .int .i64 a0_4, .int .i64 a0_5, .int .i64 a0_6, .int .i64 a0_7, .int .i64 a0_8, .int .i64 a0_9, .bool a0_10, .int .i64 a0_11] (0, 0) _ rfl (by (with_reducible repeat (first | refine blk_drewN ?_ _ | refine blk_drew ?_ | refine blk_alloc ?_ _)); refine blk_put (cs := #[.int .i64 a0_0, .int .i64 a0_1, .int .i64 a0_2, .int .i64 a0_3, .int .i64 a0_4, .int .i64 a0_5, .int .i64 a0_6, .int .i64 a0_7, .int .i64 a0_8, .int .i64 a0_9, .bool a0_10, .int .i64 0]) ?_ 11 _ rfl; (with_reducible repeat (first | refine blk_drewN ?_ _ | refine blk_drew ?_ | refine blk_alloc ?_ _)); refine blk_put (cs := #[.int .i64 a0_0, .int .i64 a0_1, .int .i64 a0_2, .int .i64 a0_3, .int .i64 a0_4, .int .i64 a0_5, .int .i64 a0_6, .int .i64 a0_7, .int .i64 a0_8, .int .i64 a0_9, .bool false, .int .i64 0]) ?_ 10 _ rfl; (with_reducible repeat (first | refine blk_drewN ?_ _ | refine blk_drew ?_ | refine blk_alloc ?_ _)); refine blk_put (cs := #[.int .i64 a0_0, .int .i64 a0_1, .int .i64 a0_2, .int .i64 a0_3, .int .i64 a0_4, .int .i64 a0_5, .int .i64 a0_6, .int .i64 a0_7, .int .i64 a0_8, .int .i64 0, .bool false, .int .i64 0]) ?_ 9 _ rfl; (with_reducible repeat (first | refine blk_drewN ?_ _ | refine blk_drew ?_ | refine blk_alloc ?_ _)); refine blk_put (cs := #[.int .i64 a0_0, .int .i64 a0_1, .int .i64 a0_2, .int .i64 a0_3, .int .i64 a0_4, .int .i64 a0_5, .int .i64 a0_6, .int .i64 a0_7, .int .i64 0, .int .i64 0, .bool false, .int .i64 0]) ?_ 8 _ rfl; (with_reducible repeat (first | refine blk_drewN ?_ _ | refine blk_drew ?_ | refine blk_alloc ?_ _)); refine blk_put (cs := #[.int .i64 a0_0, .int .i64 a0_1, .int .i64 a0_2, .int .i64 a0_3, .int .i64 a0_4, .int .i64 a0_5, .int .i64 a0_6, .int .i64 0, .int .i64 0, .int .i64 0, .bool false, .int .i64 0]) ?_ 7 _ rfl; (with_reducible repeat (first | refine blk_drewN ?_ _ | refine blk_drew ?_ | refine blk_alloc ?_ _)); refine blk_put (cs := #[.int .i64 a0_0, .int .i64 a0_1, .int .i64 a0_2, .int .i64 a0_3, .int .i64 a0_4, .int .i64 a0_5, .int .i64 0, .int .i64 0, .int .i64 0, .int .i64 0, .bool false, .int .i64 0]) ?_ 6 _ rfl; (with_reducible repeat (first | refine blk_drewN ?_ _ | refine blk_drew ?_ | refine blk_alloc ?_ _)); refine blk_put (cs := #[.int .i64 a0_0, .int .i64 a0_1, .int .i64 a0_2, .int .i64 a0_3, .int .i64 a0_4, .int .i64 0, .int .i64 0, .int .i64 0, .int .i64 0, .int .i64 0, .bool false, .int .i64 0]) ?_ 5 _ rfl; (with_reducible repeat (first | refine blk_drewN ?_ _ | refine blk_drew ?_ | refine blk_alloc ?_ _)); refine blk_put (cs := #[.int .i64 a0_0, .int .i64 a0_1, .int .i64 a0_2, .int .i64 a0_3, .int .i64 0, .int .i64 0, .int .i64 0, .int .i64 0, .int .i64 0, .int .i64 0, .bool false, .int .i64 0]) ?_ 4 _ rfl; (with_reducible repeat (first | refine blk_drewN ?_ _ | refine blk_drew ?_ | refine blk_alloc ?_ _)); refine blk_put (cs := #[.int .i64 a0_0, .int .i64 a0_1, .int .i64 a0_2, .int .i64 0, .int .i64 0, .int .i64 0, .int .i64 0, .int .i64 0, .int .i64 0, .int .i64 0, .bool false, .int .i64 0]) ?_ 3 _ rfl; (with_reducible repeat (first | refine blk_drewN ?_ _ | refine blk_drew ?_ | refine blk_alloc ?_ _)); refine blk_put (cs := #[.int .i64 a0_0, .int .i64 a0_1, .int .i64 0, .int .i64 0, .int .i64 0, .int .i64 0, .int .i64 0, .int .i64 0, .int .i64 0, .int .i64 0, .bool false, .int .i64 0]) ?_ 2 _ rfl; (with_reducible repeat (first | refine blk_drewN ?_ _ | refine blk_drew ?_ | refine blk_alloc ?_ _)); refine blk_put (cs := #[.int .i64 a0_0, .int .i64 0, .int .i64 0, .int .i64 0, .int .i64 0, .int .i64 0, .int .i64 0, .int .i64 0, .int .i64 0, .int .i64 0, .bool false, .int .i64 0]) ?_ 1 _ rfl; (with_reducible repeat (first | refine blk_drewN ?_ _ | refine blk_drew ?_ | refine blk_alloc ?_ _)); refine blk_put (cs := #[.int .i64 0, .int .i64 0, .int .i64 0, .int .i64 0, .int .i64 0, .int .i64 0, .int .i64 0, .int .i64 0, .int .i64 0, .int .i64 0, .bool false, .int .i64 0]) ?_ 0 _ rfl; (with_reducible repeat (first | refine blk_drewN ?_ _ | refine blk_drew ?_ | refine blk_alloc ?_ _)); exact BK102.out) Try.underlying54 rfl (by kernel_rfl)) rfl ?_
  exact ⟨by first | rfl | (simp [errW_none, errW_some] <;> rfl) | (simp [*, errW_none, errW_some] <;> rfl), by repeat (first | (with_reducible first | exact HB.out | apply below_alloc | apply pw_below_drewN | apply below_drew1 | refine below_set ?_ GE101.out | refine below_set ?_ GE102.out) | exact HB.out)⟩
def knelllaw11_Ofs.l0 : Nat → List (S54) → List (S50) → Int → Int → Option ((List (S54)))
  | 0, _, _, _, _ => none
  | k + 1, x3, x6, x7, x8 => if x8 < x7 then (if 0 ≤ x8 then (if x8 < (x6.length : Int) then ((knelllaw11_Of.f ((rd_T50 x6 x8).f0) ((rd_T50 x6 x8).f1) ((rd_T50 x6 x8).f2) ((rd_T50 x6 x8).f3.f0) ((rd_T50 x6 x8).f3.f1) ((rd_T50 x6 x8).f4.f0) ((rd_T50 x6 x8).f4.f1) ((rd_T50 x6 x8).f5) ((rd_T50 x6 x8).f6) ((rd_T50 x6 x8).f7) ((rd_T50 x6 x8).f8) ((rd_T50 x6 x8).f9)).bind fun bt105 => (if x3.length < 1466015503701 then (knelllaw11_Ofs.l0 k (x3 ++ [(⟨bt105.1, bt105.2.1, bt105.2.2.1, (⟨bt105.2.2.2.1, bt105.2.2.2.2.1⟩ : S34), (⟨bt105.2.2.2.2.2.1, bt105.2.2.2.2.2.2.1⟩ : S34), bt105.2.2.2.2.2.2.2.1, bt105.2.2.2.2.2.2.2.2.1, bt105.2.2.2.2.2.2.2.2.2.1, bt105.2.2.2.2.2.2.2.2.2.2.1, bt105.2.2.2.2.2.2.2.2.2.2.2⟩ : S54)]) x6 x7 (wrap64 (x8 + 1))) else (none))) else (none)) else (none)) else (some x3)
def knelllaw11_Ofs.f (k : Nat) (l0 : List (S50)) : Option ((List (S54))) := knelllaw11_Ofs.l0 k ([] : List (S54)) l0 (l0.length : Int) 0
theorem knelllaw11_Ofs.mono_l : ∀ k, (∀ y0 y1 y2 y3, LeO (knelllaw11_Ofs.l0 k y0 y1 y2 y3) (knelllaw11_Ofs.l0 (k + 1) y0 y1 y2 y3))
  | 0 => fun _ _ _ _ r h => by simp [knelllaw11_Ofs.l0] at h
  | k + 1 => by
    have ih0 := knelllaw11_Ofs.mono_l k
    · intro y0 y1 y2 y3
      unfold knelllaw11_Ofs.l0
      repeat' first
      | (with_reducible exact ih0 _ _ _ _)
      | (with_reducible exact LeO.refl _)
      | (with_reducible exact LeO.none _)
      | (with_reducible refine LeO.ite ?_ ?_)
      | (with_reducible refine LeO.bind ?_ (fun _ => ?_))
      | exact ih0 _ _ _ _
      | exact LeO.none _
      | refine LeO.ite ?_ ?_
      | refine LeO.bind ?_ (fun _ => ?_)
theorem knelllaw11_Ofs.mono : ∀ a0 k, LeO (knelllaw11_Ofs.f k a0) (knelllaw11_Ofs.f (k + 1) a0) := by
  intro a0 k
  have ih0 := knelllaw11_Ofs.mono_l k
  unfold knelllaw11_Ofs.f
  repeat' first
      | (with_reducible exact ih0 _ _ _ _)
      | (with_reducible exact LeO.refl _)
      | (with_reducible exact LeO.none _)
      | (with_reducible refine LeO.ite ?_ ?_)
      | (with_reducible refine LeO.bind ?_ (fun _ => ?_))
      | exact ih0 _ _ _ _
      | exact LeO.none _
      | refine LeO.ite ?_ ?_
      | refine LeO.bind ?_ (fun _ => ?_)
set_option maxHeartbeats 8000000 in
set_option maxRecDepth 100000 in
theorem knelllaw11_Ofs.calls (k : Nat) (A0 : Option Addr) (c0 : Nat) (l0 : List (S50)) (r : List (S54)) (w : World) (hr0 : Kd.C k50 w A0 l0.length l0) (hc0 : l0.length ≤ c0) (h : knelllaw11_Ofs.f k l0 = some r) :
    Calls Try.prog 16 #[.slice A0 l0.length c0] w fun e w' => ∃ v0_ : Value, e = .returned (v0_) ∧ Kd.R k54 54 w' w.heap.size (fun _ => True) v0_ r ∧ Below w.heap.size w w' := by
  have hu50 := Try.underlying50
  have HR0 := Aside0.mk hr0
  have HC0 := Aside0.mk hc0
  clear hr0 hc0
  have HB := Aside0.mk (Below.refl w.heap.size w)
  have H : (knelllaw11_Ofs.l0 k ([] : List (S54)) l0 (l0.length : Int) 0) = some r := h
  clear h
  have H' := Aside0.mk H
  clear H
  go_enter Try.func16, Try.ntmps16
  go_wp2
  go_loopg [3, 8] k (fun kq v3 v8 w' => ∃ (x3_1 : List (S54)) (x8_1 : Int), v8 = .int .i64 x8_1 ∧ Aside0 (knelllaw11_Ofs.l0 kq x3_1 l0 (l0.length : Int) x8_1 = some r) ∧ Aside0 (kq ≤ k) ∧ Aside0 (Kd.R k54 54 w' w.heap.size (fun _ => True) v3 x3_1) ∧ Aside0 (Below w.heap.size w w'))
  case atStart => exact ⟨(([] : List (S54))), (0), (by first | rfl | (simp; done) | (simp [*]; done)), H', ⟨Nat.le_refl _⟩, ⟨by first | exact Kd.R_nil _ _ _ _ _ | exact Kd.N_nil _ _ _ _ _ | exact Kd.V_nil _ _ _ _ _ | exact Kd.Q_nil _ _ _ _ _ | exact Kd.S_nil _ _ _ _ _⟩, ⟨by repeat (first | (with_reducible first | exact HB.out | apply below_alloc | apply pw_below_drewN | apply below_drew1) | exact HB.out)⟩⟩
  case round =>
    clear H'
    try clear c1
    obtain ⟨x3_1, x8_1, rfl, HA, HK1, HO_3, HB⟩ := hrel
    cases gk with
    | zero => exact absurd HA.out (by simp [knelllaw11_Ofs.l0])
    | succ k1 =>
      have H := HA.out
      clear HA
      simp only [knelllaw11_Ofs.l0] at H
      by_cases c2 : x8_1 < (l0.length : Int)
      · rw [if_pos c2] at H
        have c2b0 : decide (x8_1 < (l0.length : Int)) = true := decide_eq_true c2
        clear c2
        by_cases c3 : 0 ≤ x8_1
        · rw [if_pos c3] at H
          have c3b0 : decide (0 ≤ x8_1) = true := decide_eq_true c3
          clear c3
          by_cases c4 : x8_1 < (l0.length : Int)
          · rw [if_pos c4] at H
            have c4b0 : decide (x8_1 < (l0.length : Int)) = true := decide_eq_true c4
            clear c4
            replace H := Option.bind_eq_some_iff.mp H
            obtain ⟨⟨t105, t106, t107, t108, t109, t110, t111, t112, t113, t114, t115, t116⟩, A50, H⟩ := H
            replace H : (if x3_1.length < 1466015503701 then (knelllaw11_Ofs.l0 k1 (x3_1 ++ [(⟨t105, t106, t107, (⟨t108, t109⟩ : S34), (⟨t110, t111⟩ : S34), t112, t113, t114, t115, t116⟩ : S54)]) l0 (l0.length : Int) (wrap64 (x8_1 + 1))) else (none)) = some r := H
            have A5 := Aside0.mk A50
            clear A50
            by_cases c6 : x3_1.length < 1466015503701
            · rw [if_pos c6] at H
              have LMc6 := Aside0.mk c6
              clear c6
              obtain ⟨y117, hy117⟩ : ∃ y_ : List (S54), y_ = (x3_1 ++ [(⟨t105, t106, t107, (⟨t108, t109⟩ : S34), (⟨t110, t111⟩ : S34), t112, t113, t114, t115, t116⟩ : S54)]) := ⟨_, rfl⟩
              replace H : (knelllaw11_Ofs.l0 k1 y117 l0 (l0.length : Int) (wrap64 (x8_1 + 1))) = some r := by first | (rw [hy117]; with_reducible exact H) | (have H2_ := (Option.bind_some _ _).symm.trans H; rw [hy117]; with_reducible exact H2_) | (have H2_ := (Option.bind_some _ _).symm.trans H; with_reducible exact H2_) | with_reducible exact H | (rw [hy117]; exact H) | exact H
              have Ny117 := Aside0.mk hy117
              clear hy117
              have H' := Aside0.mk H
              clear H
              have p103 : 0 ≤ (x8_1 : Int) := of_decide_eq_true (by first | (with_reducible assumption) | assumption)
              have q103 : x8_1 < (l0.length : Int) := of_decide_eq_true (by first | (with_reducible assumption) | assumption)
              obtain ⟨ad103, e103, hx103_0, hx103_1, hx103_2, hx103_3, hx103_4, hx103_5, hx103_6, hx103_7, hx103_8, hx103_9, hx103_10, hx103_11⟩ := at_T50 HR0.out x8_1 p103 q103
              cases e103
              replace hx103_0 := (HB.out.cell (World.block_lt_of_cell? w _ hx103_0)).trans hx103_0
              replace hx103_1 := (HB.out.cell (World.block_lt_of_cell? w _ hx103_1)).trans hx103_1
              replace hx103_2 := (HB.out.cell (World.block_lt_of_cell? w _ hx103_2)).trans hx103_2
              replace hx103_3 := (HB.out.cell (World.block_lt_of_cell? w _ hx103_3)).trans hx103_3
              replace hx103_4 := (HB.out.cell (World.block_lt_of_cell? w _ hx103_4)).trans hx103_4
              replace hx103_5 := (HB.out.cell (World.block_lt_of_cell? w _ hx103_5)).trans hx103_5
              replace hx103_6 := (HB.out.cell (World.block_lt_of_cell? w _ hx103_6)).trans hx103_6
              replace hx103_7 := (HB.out.cell (World.block_lt_of_cell? w _ hx103_7)).trans hx103_7
              replace hx103_8 := (HB.out.cell (World.block_lt_of_cell? w _ hx103_8)).trans hx103_8
              replace hx103_9 := (HB.out.cell (World.block_lt_of_cell? w _ hx103_9)).trans hx103_9
              replace hx103_10 := (HB.out.cell (World.block_lt_of_cell? w _ hx103_10)).trans hx103_10
              replace hx103_11 := (HB.out.cell (World.block_lt_of_cell? w _ hx103_11)).trans hx103_11
              replace p103 := eq_true p103
              replace q103 := eq_true q103
              go_wp2_with (first | ((with_reducible refine gate_dst (N := 5) rfl ?_); refine box_event ?hg (N := 5) ?hd (cs := #[.int .i64 0, .int .i64 0, .int .i64 0, .int .i64 0, .int .i64 0, .int .i64 0, .int .i64 0, .int .i64 0, .int .i64 0, .int .i64 0, .bool false, .int .i64 0]) (t := 50) ?hr ?_; (case hd => rfl); (case hg => rfl); (case hr => first | (go_simp; done) | (go_simp; rfl)); intro gb104 hg w7 hbox hb; have n0_ := Aside0.mk (Kd.R_below (by (with_reducible repeat (first | apply Kd.R_alloc | apply Kd.R_drewN | apply Kd.R_drew)); exact HO_3.out) hb); have n1_ := Aside0.mk (below_step (by repeat (first | (with_reducible first | exact HB.out | apply below_alloc | apply pw_below_drewN | apply below_drew1) | exact HB.out)) hb); have n2_ := Aside0.mk (hbox); have n3_ := Aside0.mk ((by rw [hg]; exact (below_size (by repeat (first | (with_reducible first | exact HB.out | apply below_alloc | apply pw_below_drewN | apply below_drew1) | exact HB.out))) : w.heap.size ≤ gb104)); have n4_ := Aside0.mk ((by rw [hg]; exact (below_size (by repeat (first | (with_reducible first | exact HB.out | apply below_alloc | apply pw_below_drewN | apply below_drew1) | exact HB.out))) : w.heap.size ≤ gb104)); clear HO_3; clear HB; have HO_3 := n0_; have HB := n1_; have BK104 := n2_; have GW104 := n3_; have GE104 := n4_; clear n0_ n1_ n2_ n3_ n4_; clear hb hbox hg; have hcz8_0 : w7.cell? ⟨gb104, 0, none⟩ = some (.int .i64 0) := (blk_cell BK104.out 0).trans rfl; have hcz8_1 : w7.cell? ⟨gb104, 1, none⟩ = some (.int .i64 0) := (blk_cell BK104.out 1).trans rfl; have hcz8_2 : w7.cell? ⟨gb104, 2, none⟩ = some (.int .i64 0) := (blk_cell BK104.out 2).trans rfl; have hcz8_3 : w7.cell? ⟨gb104, 3, none⟩ = some (.int .i64 0) := (blk_cell BK104.out 3).trans rfl; have hcz8_4 : w7.cell? ⟨gb104, 4, none⟩ = some (.int .i64 0) := (blk_cell BK104.out 4).trans rfl; have hcz8_5 : w7.cell? ⟨gb104, 5, none⟩ = some (.int .i64 0) := (blk_cell BK104.out 5).trans rfl; have hcz8_6 : w7.cell? ⟨gb104, 6, none⟩ = some (.int .i64 0) := (blk_cell BK104.out 6).trans rfl; have hcz8_7 : w7.cell? ⟨gb104, 7, none⟩ = some (.int .i64 0) := (blk_cell BK104.out 7).trans rfl; have hcz8_8 : w7.cell? ⟨gb104, 8, none⟩ = some (.int .i64 0) := (blk_cell BK104.out 8).trans rfl; have hcz8_9 : w7.cell? ⟨gb104, 9, none⟩ = some (.int .i64 0) := (blk_cell BK104.out 9).trans rfl; have hcz8_10 : w7.cell? ⟨gb104, 10, none⟩ = some (.bool false) := (blk_cell BK104.out 10).trans rfl; have hcz8_11 : w7.cell? ⟨gb104, 11, none⟩ = some (.int .i64 0) := (blk_cell BK104.out 11).trans rfl; have hfz8_0 := blk_frozen BK104.out 0; have hfz8_1 := blk_frozen BK104.out 1; have hfz8_2 := blk_frozen BK104.out 2; have hfz8_3 := blk_frozen BK104.out 3; have hfz8_4 := blk_frozen BK104.out 4; have hfz8_5 := blk_frozen BK104.out 5; have hfz8_6 := blk_frozen BK104.out 6; have hfz8_7 := blk_frozen BK104.out 7; have hfz8_8 := blk_frozen BK104.out 8; have hfz8_9 := blk_frozen BK104.out 9; have hfz8_10 := blk_frozen BK104.out 10; have hfz8_11 := blk_frozen BK104.out 11) | ((with_reducible refine gate_callee (f := 30) rfl ?_); refine goesL_ (some 14) rfl rfl Try.func30 (by kernel_rfl) rfl #[.agg #[.int .i64 ((rd_T50 l0 x8_1).f0), .int .i64 ((rd_T50 l0 x8_1).f1), .int .i64 ((rd_T50 l0 x8_1).f2), .int .i64 ((rd_T50 l0 x8_1).f3.f0), .int .i64 ((rd_T50 l0 x8_1).f3.f1), .int .i64 ((rd_T50 l0 x8_1).f4.f0), .int .i64 ((rd_T50 l0 x8_1).f4.f1), .int .i64 ((rd_T50 l0 x8_1).f5), .int .i64 ((rd_T50 l0 x8_1).f6), .int .i64 ((rd_T50 l0 x8_1).f7), .bool ((rd_T50 l0 x8_1).f8), .int .i64 ((rd_T50 l0 x8_1).f9)]] rfl (by (try simp only [List.map_toArray, List.map_cons, List.map_nil]); first | done | rfl | (simp only [List.length_drop, List.length_take]; rfl)) ?_; (with_reducible refine (knelllaw11_Of.calls ((rd_T50 l0 x8_1).f0) ((rd_T50 l0 x8_1).f1) ((rd_T50 l0 x8_1).f2) ((rd_T50 l0 x8_1).f3.f0) ((rd_T50 l0 x8_1).f3.f1) ((rd_T50 l0 x8_1).f4.f0) ((rd_T50 l0 x8_1).f4.f1) ((rd_T50 l0 x8_1).f5) ((rd_T50 l0 x8_1).f6) ((rd_T50 l0 x8_1).f7) ((rd_T50 l0 x8_1).f8) ((rd_T50 l0 x8_1).f9) t105 t106 t107 t108 t109 t110 t111 t112 t113 t114 t115 t116 _ A5.out).mono ?_); rintro e w9 ⟨rfl, hb⟩; refine ⟨_, rfl, ?_⟩; have n0_ := Aside0.mk (Kd.R_below (by (with_reducible repeat (first | apply Kd.R_alloc | apply Kd.R_drewN | apply Kd.R_drew)); exact (Kd.R_mono (Kd.R_far (p := ⟨gb104, 11, none⟩) (Kd.R_far (p := ⟨gb104, 10, none⟩) (Kd.R_far (p := ⟨gb104, 9, none⟩) (Kd.R_far (p := ⟨gb104, 8, none⟩) (Kd.R_far (p := ⟨gb104, 7, none⟩) (Kd.R_far (p := ⟨gb104, 6, none⟩) (Kd.R_far (p := ⟨gb104, 5, none⟩) (Kd.R_far (p := ⟨gb104, 4, none⟩) (Kd.R_far (p := ⟨gb104, 3, none⟩) (Kd.R_far (p := ⟨gb104, 2, none⟩) (Kd.R_far (p := ⟨gb104, 1, none⟩) (Kd.R_far (p := ⟨gb104, 0, none⟩) (Kd.R_types HO_3.out BK104.out (by decide)) (fun _ hk => hk.2) (.int .i64 ((rd_T50 l0 x8_1).f0))) (fun _ hk => hk.2) (.int .i64 ((rd_T50 l0 x8_1).f1))) (fun _ hk => hk.2) (.int .i64 ((rd_T50 l0 x8_1).f2))) (fun _ hk => hk.2) (.int .i64 ((rd_T50 l0 x8_1).f3.f0))) (fun _ hk => hk.2) (.int .i64 ((rd_T50 l0 x8_1).f3.f1))) (fun _ hk => hk.2) (.int .i64 ((rd_T50 l0 x8_1).f4.f0))) (fun _ hk => hk.2) (.int .i64 ((rd_T50 l0 x8_1).f4.f1))) (fun _ hk => hk.2) (.int .i64 ((rd_T50 l0 x8_1).f5))) (fun _ hk => hk.2) (.int .i64 ((rd_T50 l0 x8_1).f6))) (fun _ hk => hk.2) (.int .i64 ((rd_T50 l0 x8_1).f7))) (fun _ hk => hk.2) (.bool ((rd_T50 l0 x8_1).f8))) (fun _ hk => hk.2) (.int .i64 ((rd_T50 l0 x8_1).f9))) (fun _ h_ => h_.1))) hb); have n1_ := Aside0.mk (blk_below (g := gb104) (o := .cells #[.int .i64 ((rd_T50 l0 x8_1).f0), .int .i64 ((rd_T50 l0 x8_1).f1), .int .i64 ((rd_T50 l0 x8_1).f2), .int .i64 ((rd_T50 l0 x8_1).f3.f0), .int .i64 ((rd_T50 l0 x8_1).f3.f1), .int .i64 ((rd_T50 l0 x8_1).f4.f0), .int .i64 ((rd_T50 l0 x8_1).f4.f1), .int .i64 ((rd_T50 l0 x8_1).f5), .int .i64 ((rd_T50 l0 x8_1).f6), .int .i64 ((rd_T50 l0 x8_1).f7), .bool ((rd_T50 l0 x8_1).f8), .int .i64 ((rd_T50 l0 x8_1).f9)] 50 (0, 0)) (by (with_reducible repeat (first | refine blk_drewN ?_ _ | refine blk_drew ?_ | refine blk_alloc ?_ _)); refine blk_put (cs := #[.int .i64 ((rd_T50 l0 x8_1).f0), .int .i64 ((rd_T50 l0 x8_1).f1), .int .i64 ((rd_T50 l0 x8_1).f2), .int .i64 ((rd_T50 l0 x8_1).f3.f0), .int .i64 ((rd_T50 l0 x8_1).f3.f1), .int .i64 ((rd_T50 l0 x8_1).f4.f0), .int .i64 ((rd_T50 l0 x8_1).f4.f1), .int .i64 ((rd_T50 l0 x8_1).f5), .int .i64 ((rd_T50 l0 x8_1).f6), .int .i64 ((rd_T50 l0 x8_1).f7), .bool ((rd_T50 l0 x8_1).f8), .int .i64 0]) ?_ 11 _ rfl; (with_reducible repeat (first | refine blk_drewN ?_ _ | refine blk_drew ?_ | refine blk_alloc ?_ _)); refine blk_put (cs := #[.int .i64 ((rd_T50 l0 x8_1).f0), .int .i64 ((rd_T50 l0 x8_1).f1), .int .i64 ((rd_T50 l0 x8_1).f2), .int .i64 ((rd_T50 l0 x8_1).f3.f0), .int .i64 ((rd_T50 l0 x8_1).f3.f1), .int .i64 ((rd_T50 l0 x8_1).f4.f0), .int .i64 ((rd_T50 l0 x8_1).f4.f1), .int .i64 ((rd_T50 l0 x8_1).f5), .int .i64 ((rd_T50 l0 x8_1).f6), .int .i64 ((rd_T50 l0 x8_1).f7), .bool false, .int .i64 0]) ?_ 10 _ rfl; (with_reducible repeat (first | refine blk_drewN ?_ _ | refine blk_drew ?_ | refine blk_alloc ?_ _)); refine blk_put (cs := #[.int .i64 ((rd_T50 l0 x8_1).f0), .int .i64 ((rd_T50 l0 x8_1).f1), .int .i64 ((rd_T50 l0 x8_1).f2), .int .i64 ((rd_T50 l0 x8_1).f3.f0), .int .i64 ((rd_T50 l0 x8_1).f3.f1), .int .i64 ((rd_T50 l0 x8_1).f4.f0), .int .i64 ((rd_T50 l0 x8_1).f4.f1), .int .i64 ((rd_T50 l0 x8_1).f5), .int .i64 ((rd_T50 l0 x8_1).f6), .int .i64 0, .bool false, .int .i64 0]) ?_ 9 _ rfl; (with_reducible repeat (first | refine blk_drewN ?_ _ | refine blk_drew ?_ | refine blk_alloc ?_ _)); refine blk_put (cs := #[.int .i64 ((rd_T50 l0 x8_1).f0), .int .i64 ((rd_T50 l0 x8_1).f1), .int .i64 ((rd_T50 l0 x8_1).f2), .int .i64 ((rd_T50 l0 x8_1).f3.f0), .int .i64 ((rd_T50 l0 x8_1).f3.f1), .int .i64 ((rd_T50 l0 x8_1).f4.f0), .int .i64 ((rd_T50 l0 x8_1).f4.f1), .int .i64 ((rd_T50 l0 x8_1).f5), .int .i64 0, .int .i64 0, .bool false, .int .i64 0]) ?_ 8 _ rfl; (with_reducible repeat (first | refine blk_drewN ?_ _ | refine blk_drew ?_ | refine blk_alloc ?_ _)); refine blk_put (cs := #[.int .i64 ((rd_T50 l0 x8_1).f0), .int .i64 ((rd_T50 l0 x8_1).f1), .int .i64 ((rd_T50 l0 x8_1).f2), .int .i64 ((rd_T50 l0 x8_1).f3.f0), .int .i64 ((rd_T50 l0 x8_1).f3.f1), .int .i64 ((rd_T50 l0 x8_1).f4.f0), .int .i64 ((rd_T50 l0 x8_1).f4.f1), .int .i64 0, .int .i64 0, .int .i64 0, .bool false, .int .i64 0]) ?_ 7 _ rfl; (with_reducible repeat (first | refine blk_drewN ?_ _ | refine blk_drew ?_ | refine blk_alloc ?_ _)); refine blk_put (cs := #[.int .i64 ((rd_T50 l0 x8_1).f0), .int .i64 ((rd_T50 l0 x8_1).f1), .int .i64 ((rd_T50 l0 x8_1).f2), .int .i64 ((rd_T50 l0 x8_1).f3.f0), .int .i64 ((rd_T50 l0 x8_1).f3.f1), .int .i64 ((rd_T50 l0 x8_1).f4.f0), .int .i64 0, .int .i64 0, .int .i64 0, .int .i64 0, .bool false, .int .i64 0]) ?_ 6 _ rfl; (with_reducible repeat (first | refine blk_drewN ?_ _ | refine blk_drew ?_ | refine blk_alloc ?_ _)); refine blk_put (cs := #[.int .i64 ((rd_T50 l0 x8_1).f0), .int .i64 ((rd_T50 l0 x8_1).f1), .int .i64 ((rd_T50 l0 x8_1).f2), .int .i64 ((rd_T50 l0 x8_1).f3.f0), .int .i64 ((rd_T50 l0 x8_1).f3.f1), .int .i64 0, .int .i64 0, .int .i64 0, .int .i64 0, .int .i64 0, .bool false, .int .i64 0]) ?_ 5 _ rfl; (with_reducible repeat (first | refine blk_drewN ?_ _ | refine blk_drew ?_ | refine blk_alloc ?_ _)); refine blk_put (cs := #[.int .i64 ((rd_T50 l0 x8_1).f0), .int .i64 ((rd_T50 l0 x8_1).f1), .int .i64 ((rd_T50 l0 x8_1).f2), .int .i64 ((rd_T50 l0 x8_1).f3.f0), .int .i64 0, .int .i64 0, .int .i64 0, .int .i64 0, .int .i64 0, .int .i64 0, .bool false, .int .i64 0]) ?_ 4 _ rfl; (with_reducible repeat (first | refine blk_drewN ?_ _ | refine blk_drew ?_ | refine blk_alloc ?_ _)); refine blk_put (cs := #[.int .i64 ((rd_T50 l0 x8_1).f0), .int .i64 ((rd_T50 l0 x8_1).f1), .int .i64 ((rd_T50 l0 x8_1).f2), .int .i64 0, .int .i64 0, .int .i64 0, .int .i64 0, .int .i64 0, .int .i64 0, .int .i64 0, .bool false, .int .i64 0]) ?_ 3 _ rfl; (with_reducible repeat (first | refine blk_drewN ?_ _ | refine blk_drew ?_ | refine blk_alloc ?_ _)); refine blk_put (cs := #[.int .i64 ((rd_T50 l0 x8_1).f0), .int .i64 ((rd_T50 l0 x8_1).f1), .int .i64 0, .int .i64 0, .int .i64 0, .int .i64 0, .int .i64 0, .int .i64 0, .int .i64 0, .int .i64 0, .bool false, .int .i64 0]) ?_ 2 _ rfl; (with_reducible repeat (first | refine blk_drewN ?_ _ | refine blk_drew ?_ | refine blk_alloc ?_ _)); refine blk_put (cs := #[.int .i64 ((rd_T50 l0 x8_1).f0), .int .i64 0, .int .i64 0, .int .i64 0, .int .i64 0, .int .i64 0, .int .i64 0, .int .i64 0, .int .i64 0, .int .i64 0, .bool false, .int .i64 0]) ?_ 1 _ rfl; (with_reducible repeat (first | refine blk_drewN ?_ _ | refine blk_drew ?_ | refine blk_alloc ?_ _)); refine blk_put (cs := #[.int .i64 0, .int .i64 0, .int .i64 0, .int .i64 0, .int .i64 0, .int .i64 0, .int .i64 0, .int .i64 0, .int .i64 0, .int .i64 0, .bool false, .int .i64 0]) ?_ 0 _ rfl; (with_reducible repeat (first | refine blk_drewN ?_ _ | refine blk_drew ?_ | refine blk_alloc ?_ _)); exact BK104.out) hb); have n2_ := Aside0.mk (below_step (by repeat (first | (with_reducible first | exact HB.out | apply below_alloc | apply pw_below_drewN | apply below_drew1 | refine below_set ?_ GE104.out) | exact HB.out)) hb); clear HO_3; clear BK104; clear HB; have HO_3 := n0_; have BK104 := n1_; have HB := n2_; clear n0_ n1_ n2_; (try clear hb); (try clear hb2); (try clear hk); (try clear hi)) | ((with_reducible refine gate_builtin (b := .append) (xs := #[.tmp 12, .tmp 15]) rfl ?_); at_builtin; refine Kd.R_append k54 (w0 := w) w.heap.size rfl (.tmp 12) (.tmp 15) 24 54 (.agg #[(.int .i64 0), (.int .i64 0), (.int .i64 0), (.int .i64 0), (.int .i64 0), (.int .i64 0), (.int .i64 0), (.int .i64 0), (.int .i64 0), (.int .i64 0), (.bool false), (.int .i64 0)]) 96 rfl Try.underlying24 info54 rfl (by decide) (by omega) u3 x3_1 (⟨t105, t106, t107, (⟨t108, t109⟩ : S34), (⟨t110, t111⟩ : S34), t112, t113, t114, t115, t116⟩ : S54) [.int .i64 t105, .int .i64 t106, .int .i64 t107, .int .i64 t108, .int .i64 t109, .int .i64 t110, .int .i64 t111, .int .i64 t112, .int .i64 t113, .int .i64 t114, .bool t115, .int .i64 t116] (fun _ => True) (fun _ => False) rfl rfl ?aP (fun _ hk => hk.elim) ?aF ?aO ?aB ?aS ?aL ?_; (case aP => exact k54_mkM _ _ _ (⟨t105, t106, t107, (⟨t108, t109⟩ : S34), (⟨t110, t111⟩ : S34), t112, t113, t114, t115, t116⟩ : S54)); (case aB => exact (by repeat (first | (with_reducible first | exact HB.out | apply below_alloc | apply pw_below_drewN | apply below_drew1 | refine below_set ?_ GE104.out) | exact HB.out))); (case aF => exact (fun _ _ => trivial)); (case aO => exact (by (with_reducible repeat (first | apply Kd.R_alloc | apply Kd.R_drewN | apply Kd.R_drew)); exact HO_3.out)); (case aS => exact (below_size (by repeat (first | (with_reducible first | exact HB.out | apply below_alloc | apply pw_below_drewN | apply below_drew1 | refine below_set ?_ GE104.out) | exact HB.out)))); (case aL => have := LMc6.out; omega); intro v118 w10 ho hb hg hat; rw [← Ny117.out] at ho; have n0_ := Aside0.mk (blk_grown (g := gb104) (o := .cells #[.int .i64 ((rd_T50 l0 x8_1).f0), .int .i64 ((rd_T50 l0 x8_1).f1), .int .i64 ((rd_T50 l0 x8_1).f2), .int .i64 ((rd_T50 l0 x8_1).f3.f0), .int .i64 ((rd_T50 l0 x8_1).f3.f1), .int .i64 ((rd_T50 l0 x8_1).f4.f0), .int .i64 ((rd_T50 l0 x8_1).f4.f1), .int .i64 ((rd_T50 l0 x8_1).f5), .int .i64 ((rd_T50 l0 x8_1).f6), .int .i64 ((rd_T50 l0 x8_1).f7), .bool ((rd_T50 l0 x8_1).f8), .int .i64 ((rd_T50 l0 x8_1).f9)] 50 (0, 0)) (by (with_reducible repeat (first | refine blk_drewN ?_ _ | refine blk_drew ?_ | refine blk_alloc ?_ _)); exact BK104.out) hg (Kd.R_ne HO_3.out BK104.out (by decide))); have n1_ := Aside0.mk (hb); have n2_ := Aside0.mk (ho); clear BK104; clear HB; clear HO_3; have BK104 := n0_; have HB := n1_; have HO119 := n2_; clear n0_ n1_ n2_; clear ho hb hg hat))
              go_roundg k1
              case measure => have := HK1.out; omega
              case rel => exact ⟨(y117), (wrap64 (x8_1 + 1)), (by first | rfl | (simp; done) | (simp [*]; done)), H', ⟨by have := HK1.out; omega⟩, ⟨by (with_reducible repeat (first | apply Kd.R_alloc | apply Kd.R_drewN | apply Kd.R_drew)); exact HO119.out⟩, ⟨by repeat (first | (with_reducible first | exact HB.out | apply below_alloc | apply pw_below_drewN | apply below_drew1 | refine below_set ?_ GE104.out) | exact HB.out)⟩⟩
            · rw [if_neg c6] at H
              exact absurd H (by simp)
          · rw [if_neg c4] at H
            exact absurd H (by simp)
        · rw [if_neg c3] at H
          exact absurd H (by simp)
      · rw [if_neg c2] at H
        have c2b0 : decide (x8_1 < (l0.length : Int)) = false := decide_eq_false c2
        clear c2
        obtain rfl := Option.some.inj H
        go_wp2
        go_ret
        exact ⟨_, by first | rfl | (simp [errW_none, errW_some] <;> rfl) | (simp [*, errW_none, errW_some] <;> rfl), by (with_reducible repeat (first | apply Kd.R_alloc | apply Kd.R_drewN | apply Kd.R_drew)); exact HO_3.out, by repeat (first | (with_reducible first | exact HB.out | apply below_alloc | apply pw_below_drewN | apply below_drew1) | exact HB.out)⟩
def knelllaw13_speaks.f : Option Bool := some true
theorem knelllaw13_speaks.calls (r1 : Bool) (w : World) (h : knelllaw13_speaks.f = some r1) :
    Calls Try.prog 25 #[] w fun e w' => e = .returned (.bool r1) ∧ Below w.heap.size w w' := by
  have e := Option.some.inj h
  rw [← e]
  exact Go.Proofs.Ythniclbmpeklmaa.Ju.speaks_any w
def judge_Judge.ev (x : S54) : Go.Proofs.Ythniclbmpeklmaa.Au.Ev := ⟨x.f0, x.f1, x.f2, x.f3.f0, x.f3.f1, x.f4.f0, x.f4.f1, x.f5, x.f6, x.f7, x.f8, x.f9⟩
def judge_Judge.f (l0 : List S54) (a1 : Int) : Option (Int × Int) := if l0.length ≤ 200000 ∧ (l0.all fun x => Go.Proofs.Ythniclbmpeklmaa.Ju.wfB' (judge_Judge.ev x)) = true then some (Go.Proofs.Ythniclbmpeklmaa.Ju.judgeF (l0.map judge_Judge.ev) a1) else none
theorem judge_Judge.calls (A0 : Option Addr) (c0 : Nat) (l0 : List S54) (a1 : Int) (r1 : Int) (r2 : Int) (w : World) (hr0 : Kd.C k54 w A0 l0.length l0) (hc0 : l0.length ≤ c0) (h : judge_Judge.f l0 a1 = some (r1, r2)) :
    Calls Try.prog 37 #[.slice A0 l0.length c0, .int .i64 a1] w fun e w' => e = .returned (.tuple #[.int .i64 r1, .int .i64 r2]) ∧ Below w.heap.size w w' := by
  unfold judge_Judge.f at h
  split at h
  · rename_i hs
    have h1 := Go.Proofs.Ythniclbmpeklmaa.Ju.judge_any A0 c0 a1 (l0.map judge_Judge.ev) (by rw [List.length_map]; exact hs.1) w (fun i e he => by
      rw [List.getElem?_map] at he
      obtain ⟨x, hx, rfl⟩ := Option.map_eq_some_iff.1 he
      have hi : i < l0.length := (List.getElem?_eq_some_iff.1 hx).1
      have hrd : rd_T54 l0 (i : Int) = x := by
        show l0.getD i z54 = x
        rw [List.getD_eq_getElem?_getD, hx]; rfl
      have hat := at_T54 hr0 (i : Int) (by omega) (by omega)
      rw [hrd] at hat
      exact hat) (fun e he => by
      obtain ⟨x, hx, rfl⟩ := List.mem_map.1 he
      exact Go.Proofs.Ythniclbmpeklmaa.Ju.wfJ_of (List.all_eq_true.1 hs.2 x hx))
    rw [List.length_map] at h1
    rw [Option.some.inj h] at h1
    exact h1
  · cases h
mutual
def knelllaw13_JudgeFront.j0 : Nat → Int → List (S50) → Int → Bool → Option (Bool)
  | 0, _, _, _, _ => none
  | k + 1, x0, x1, x2, x29 => if x29 = true then ((knelllaw13_speaks.f).bind fun t121 => (some t121)) else ((knelllaw11_Ofs.f k x1).bind fun t122 => ((judge_Judge.f t122 x0).bind fun bt125 => (if bt125.2 = 0 then (if (wrap64 ((x1.length : Int) + 1)) = 0 then (none) else (if 0 ≤ (Int.tmod (wrap64 (x2)) (wrap64 ((x1.length : Int) + 1))) then (if (Int.tmod (wrap64 (x2)) (wrap64 ((x1.length : Int) + 1))) ≤ (x1.length : Int) then ((knelllaw11_Ofs.f k (x1.take ((Int.tmod (wrap64 (x2)) (wrap64 ((x1.length : Int) + 1))) : Int).toNat)).bind fun t131 => ((judge_Judge.f t131 x0).bind fun bt134 => (if bt134.1 = (-1) then (some (bt134.2 == 0)) else (some false)))) else (none)) else (none))) else (if bt125.1 < 0 then (knelllaw13_JudgeFront.j1 k x0 x1 x2 bt125.1 bt125.2 true) else (knelllaw13_JudgeFront.j1 k x0 x1 x2 bt125.1 bt125.2 (decide (bt125.1 ≥ (x1.length : Int))))))))
def knelllaw13_JudgeFront.j1 : Nat → Int → List (S50) → Int → Int → Int → Bool → Option (Bool)
  | 0, _, _, _, _, _, _ => none
  | k + 1, x0, x1, x2, x7, x8, x49 => if x49 = true then (some false) else (if 0 ≤ (wrap64 (x7 + 1)) then (if (wrap64 (x7 + 1)) ≤ (x1.length : Int) then ((knelllaw11_Ofs.f k (x1.take ((wrap64 (x7 + 1)) : Int).toNat)).bind fun t140 => ((judge_Judge.f t140 x0).bind fun bt143 => (if bt143.1 = x7 then (knelllaw13_JudgeFront.j2 k x0 x1 x2 x7 (bt143.2 != x8)) else (knelllaw13_JudgeFront.j2 k x0 x1 x2 x7 true)))) else (none)) else (none))
def knelllaw13_JudgeFront.j2 : Nat → Int → List (S50) → Int → Int → Bool → Option (Bool)
  | 0, _, _, _, _, _ => none
  | k + 1, x0, x1, x2, x9, x68 => if x68 = true then (some false) else (if (wrap64 (x9 + 1)) = 0 then (none) else (if 0 ≤ (Int.tmod (wrap64 (x2)) (wrap64 (x9 + 1))) then (if (Int.tmod (wrap64 (x2)) (wrap64 (x9 + 1))) ≤ (x1.length : Int) then ((knelllaw11_Ofs.f k (x1.take ((Int.tmod (wrap64 (x2)) (wrap64 (x9 + 1))) : Int).toNat)).bind fun t149 => ((judge_Judge.f t149 x0).bind fun bt152 => (if bt152.1 = (-1) then (some (bt152.2 == 0)) else (some false)))) else (none)) else (none)))
end
def knelllaw13_JudgeFront.f (k : Nat) (a0 : Int) (l1 : List (S50)) (a2 : Int) : Option (Bool) := (knelllaw13_speaks.f).bind fun t120 => (if t120 = true then (if (l1.length : Int) > 60 then (knelllaw13_JudgeFront.j0 k a0 l1 a2 true) else (if a0 < 1 then (knelllaw13_JudgeFront.j0 k a0 l1 a2 true) else (knelllaw13_JudgeFront.j0 k a0 l1 a2 (decide (a0 > 64))))) else (knelllaw13_JudgeFront.j0 k a0 l1 a2 true))
theorem knelllaw13_JudgeFront.mono_l : ∀ k, (∀ y0 y1 y2 y3, LeO (knelllaw13_JudgeFront.j0 k y0 y1 y2 y3) (knelllaw13_JudgeFront.j0 (k + 1) y0 y1 y2 y3)) ∧ (∀ y0 y1 y2 y3 y4 y5, LeO (knelllaw13_JudgeFront.j1 k y0 y1 y2 y3 y4 y5) (knelllaw13_JudgeFront.j1 (k + 1) y0 y1 y2 y3 y4 y5)) ∧ (∀ y0 y1 y2 y3 y4, LeO (knelllaw13_JudgeFront.j2 k y0 y1 y2 y3 y4) (knelllaw13_JudgeFront.j2 (k + 1) y0 y1 y2 y3 y4))
  | 0 => ⟨fun _ _ _ _ r h => by simp [knelllaw13_JudgeFront.j0] at h, fun _ _ _ _ _ _ r h => by simp [knelllaw13_JudgeFront.j1] at h, fun _ _ _ _ _ r h => by simp [knelllaw13_JudgeFront.j2] at h⟩
  | k + 1 => by
    obtain ⟨ih0, ih1, ih2⟩ := knelllaw13_JudgeFront.mono_l k
    refine ⟨?_, ?_, ?_⟩
    · intro y0 y1 y2 y3
      unfold knelllaw13_JudgeFront.j0
      repeat' first
      | (with_reducible exact ih0 _ _ _ _)
      | (with_reducible exact ih1 _ _ _ _ _ _)
      | (with_reducible exact ih2 _ _ _ _ _)
      | (with_reducible exact knelllaw11_Ofs.mono _ _)
      | (with_reducible exact LeO.refl _)
      | (with_reducible exact LeO.none _)
      | (with_reducible refine LeO.ite ?_ ?_)
      | (with_reducible refine LeO.bind ?_ (fun _ => ?_))
      | exact ih0 _ _ _ _
      | exact ih1 _ _ _ _ _ _
      | exact ih2 _ _ _ _ _
      | exact knelllaw11_Ofs.mono _ _
      | exact LeO.none _
      | refine LeO.ite ?_ ?_
      | refine LeO.bind ?_ (fun _ => ?_)
    · intro y0 y1 y2 y3 y4 y5
      unfold knelllaw13_JudgeFront.j1
      repeat' first
      | (with_reducible exact ih0 _ _ _ _)
      | (with_reducible exact ih1 _ _ _ _ _ _)
      | (with_reducible exact ih2 _ _ _ _ _)
      | (with_reducible exact knelllaw11_Ofs.mono _ _)
      | (with_reducible exact LeO.refl _)
      | (with_reducible exact LeO.none _)
      | (with_reducible refine LeO.ite ?_ ?_)
      | (with_reducible refine LeO.bind ?_ (fun _ => ?_))
      | exact ih0 _ _ _ _
      | exact ih1 _ _ _ _ _ _
      | exact ih2 _ _ _ _ _
      | exact knelllaw11_Ofs.mono _ _
      | exact LeO.none _
      | refine LeO.ite ?_ ?_
      | refine LeO.bind ?_ (fun _ => ?_)
    · intro y0 y1 y2 y3 y4
      unfold knelllaw13_JudgeFront.j2
      repeat' first
      | (with_reducible exact ih0 _ _ _ _)
      | (with_reducible exact ih1 _ _ _ _ _ _)
      | (with_reducible exact ih2 _ _ _ _ _)
      | (with_reducible exact knelllaw11_Ofs.mono _ _)
      | (with_reducible exact LeO.refl _)
      | (with_reducible exact LeO.none _)
      | (with_reducible refine LeO.ite ?_ ?_)
      | (with_reducible refine LeO.bind ?_ (fun _ => ?_))
      | exact ih0 _ _ _ _
      | exact ih1 _ _ _ _ _ _
      | exact ih2 _ _ _ _ _
      | exact knelllaw11_Ofs.mono _ _
      | exact LeO.none _
      | refine LeO.ite ?_ ?_
      | refine LeO.bind ?_ (fun _ => ?_)
theorem knelllaw13_JudgeFront.mono : ∀ a0 a1 a2 k, LeO (knelllaw13_JudgeFront.f k a0 a1 a2) (knelllaw13_JudgeFront.f (k + 1) a0 a1 a2) := by
  intro a0 a1 a2 k
  obtain ⟨ih0, ih1, ih2⟩ := knelllaw13_JudgeFront.mono_l k
  unfold knelllaw13_JudgeFront.f
  repeat' first
      | (with_reducible exact ih0 _ _ _ _)
      | (with_reducible exact ih1 _ _ _ _ _ _)
      | (with_reducible exact ih2 _ _ _ _ _)
      | (with_reducible exact knelllaw11_Ofs.mono _ _)
      | (with_reducible exact LeO.refl _)
      | (with_reducible exact LeO.none _)
      | (with_reducible refine LeO.ite ?_ ?_)
      | (with_reducible refine LeO.bind ?_ (fun _ => ?_))
      | exact ih0 _ _ _ _
      | exact ih1 _ _ _ _ _ _
      | exact ih2 _ _ _ _ _
      | exact knelllaw11_Ofs.mono _ _
      | exact LeO.none _
      | refine LeO.ite ?_ ?_
      | refine LeO.bind ?_ (fun _ => ?_)
set_option maxHeartbeats 8000000 in
set_option maxRecDepth 100000 in
theorem knelllaw13_JudgeFront.calls (k : Nat) (a0 : Int) (A1 : Option Addr) (c1 : Nat) (l1 : List (S50)) (a2 : Int) (r : Bool) (w : World) (hr1 : Kd.C k50 w A1 l1.length l1) (hc1 : l1.length ≤ c1) (h : knelllaw13_JudgeFront.f k a0 l1 a2 = some r) :
    Calls Try.prog 8 #[.int .i64 a0, .slice A1 l1.length c1, .int .u8 a2] w fun e w' => e = .returned (.bool r) ∧ Below w.heap.size w w' := by
  have HR1 := Aside0.mk hr1
  have HC1 := Aside0.mk hc1
  clear hr1 hc1
  have HB := Aside0.mk (Below.refl w.heap.size w)
  have H : ((knelllaw13_speaks.f).bind fun t120 => (if t120 = true then (if (l1.length : Int) > 60 then (knelllaw13_JudgeFront.j0 k a0 l1 a2 true) else (if a0 < 1 then (knelllaw13_JudgeFront.j0 k a0 l1 a2 true) else (knelllaw13_JudgeFront.j0 k a0 l1 a2 (decide (a0 > 64))))) else (knelllaw13_JudgeFront.j0 k a0 l1 a2 true))) = some r := h
  clear h
  have HC4 := Aside0.mk H
  clear H
  go_enter Try.func8, Try.ntmps8
  go_upto_region 1 with (fail)
  go_cut [29] (fun v29 wc => ∃ (kq : Nat) (x29_3 : Bool), v29 = .bool x29_3 ∧ Aside0 (knelllaw13_JudgeFront.j0 kq a0 l1 a2 x29_3 = some r) ∧ Aside0 (kq ≤ k) ∧ Aside0 (Below w.heap.size w wc))
  case first =>
    have H := HC4.out
    clear HC4
    replace H := Option.bind_eq_some_iff.mp H
    obtain ⟨t120, A50, H⟩ := H
    replace H : (if t120 = true then (if (l1.length : Int) > 60 then (knelllaw13_JudgeFront.j0 k a0 l1 a2 true) else (if a0 < 1 then (knelllaw13_JudgeFront.j0 k a0 l1 a2 true) else (knelllaw13_JudgeFront.j0 k a0 l1 a2 (decide (a0 > 64))))) else (knelllaw13_JudgeFront.j0 k a0 l1 a2 true)) = some r := H
    have A5 := Aside0.mk A50
    clear A50
    by_cases c6 : t120 = true
    · subst c6
      have H1 : (if (l1.length : Int) > 60 then (knelllaw13_JudgeFront.j0 k a0 l1 a2 true) else (if a0 < 1 then (knelllaw13_JudgeFront.j0 k a0 l1 a2 true) else (knelllaw13_JudgeFront.j0 k a0 l1 a2 (decide (a0 > 64))))) = some r := by rw [if_pos rfl] at H; exact H
      clear H
      have H := H1
      clear H1
      by_cases c7 : (l1.length : Int) > 60
      · rw [if_pos c7] at H
        have c7b0 : decide (60 < (l1.length : Int)) = true := decide_eq_true c7
        have c7b1 : decide (60 < l1.length) = true := decide_eq_true (by omega)
        clear c7
        (first | rw [c7b0] | (simp only [i64_w, i32_w]; rw [c7b0]) | skip)
        have H' := Aside0.mk H
        clear H
        go_wp2_with (first | ((with_reducible refine gate_callee (f := 25) rfl ?_); refine goesL_ (some 15) rfl rfl Try.func25 (by kernel_rfl) rfl #[] rfl (by (try simp only [List.map_toArray, List.map_cons, List.map_nil]); first | done | rfl | (simp only [List.length_drop, List.length_take]; rfl)) ?_; (with_reducible refine (knelllaw13_speaks.calls  true _ A5.out).mono ?_); rintro e w8 ⟨rfl, hb⟩; refine ⟨_, rfl, ?_⟩; have n0_ := Aside0.mk (below_step (by repeat (first | (with_reducible first | exact HB.out | apply below_alloc | apply pw_below_drewN | apply below_drew1) | exact HB.out)) hb); clear HB; have HB := n0_; clear n0_; (try clear hb); (try clear hb2); (try clear hk); (try clear hi)))
        go_meet
        case rel => exact ⟨_, (true), (by first | rfl | (simp; done) | (simp [*]; done)), H', ⟨by first | omega | exact Nat.le_refl _⟩, ⟨by repeat (first | (with_reducible first | exact HB.out | apply below_alloc | apply pw_below_drewN | apply below_drew1) | exact HB.out)⟩⟩
      · rw [if_neg c7] at H
        have c7b0 : decide (60 < (l1.length : Int)) = false := decide_eq_false c7
        have c7b1 : decide (60 < l1.length) = false := decide_eq_false (by omega)
        clear c7
        (first | rw [c7b0] | (simp only [i64_w, i32_w]; rw [c7b0]) | skip)
        by_cases c9 : a0 < 1
        · rw [if_pos c9] at H
          have c9b0 : decide (a0 < 1) = true := decide_eq_true c9
          clear c9
          have H' := Aside0.mk H
          clear H
          go_wp2_with (first | ((with_reducible refine gate_callee (f := 25) rfl ?_); refine goesL_ (some 15) rfl rfl Try.func25 (by kernel_rfl) rfl #[] rfl (by (try simp only [List.map_toArray, List.map_cons, List.map_nil]); first | done | rfl | (simp only [List.length_drop, List.length_take]; rfl)) ?_; (with_reducible refine (knelllaw13_speaks.calls  true _ A5.out).mono ?_); rintro e w10 ⟨rfl, hb⟩; refine ⟨_, rfl, ?_⟩; have n0_ := Aside0.mk (below_step (by repeat (first | (with_reducible first | exact HB.out | apply below_alloc | apply pw_below_drewN | apply below_drew1) | exact HB.out)) hb); clear HB; have HB := n0_; clear n0_; (try clear hb); (try clear hb2); (try clear hk); (try clear hi)))
          go_meet
          case rel => exact ⟨_, (true), (by first | rfl | (simp; done) | (simp [*]; done)), H', ⟨by first | omega | exact Nat.le_refl _⟩, ⟨by repeat (first | (with_reducible first | exact HB.out | apply below_alloc | apply pw_below_drewN | apply below_drew1) | exact HB.out)⟩⟩
        · rw [if_neg c9] at H
          have c9b0 : decide (a0 < 1) = false := decide_eq_false c9
          clear c9
          have H' := Aside0.mk H
          clear H
          go_wp2_with (first | ((with_reducible refine gate_callee (f := 25) rfl ?_); refine goesL_ (some 15) rfl rfl Try.func25 (by kernel_rfl) rfl #[] rfl (by (try simp only [List.map_toArray, List.map_cons, List.map_nil]); first | done | rfl | (simp only [List.length_drop, List.length_take]; rfl)) ?_; (with_reducible refine (knelllaw13_speaks.calls  true _ A5.out).mono ?_); rintro e w11 ⟨rfl, hb⟩; refine ⟨_, rfl, ?_⟩; have n0_ := Aside0.mk (below_step (by repeat (first | (with_reducible first | exact HB.out | apply below_alloc | apply pw_below_drewN | apply below_drew1) | exact HB.out)) hb); clear HB; have HB := n0_; clear n0_; (try clear hb); (try clear hb2); (try clear hk); (try clear hi)))
          go_meet
          case rel => exact ⟨_, (decide (a0 > 64)), (by first | rfl | (simp; done) | (simp [*]; done)), H', ⟨by first | omega | exact Nat.le_refl _⟩, ⟨by repeat (first | (with_reducible first | exact HB.out | apply below_alloc | apply pw_below_drewN | apply below_drew1) | exact HB.out)⟩⟩
    · replace c6 := Bool.eq_false_iff.mpr c6
      subst c6
      have H1 : (knelllaw13_JudgeFront.j0 k a0 l1 a2 true) = some r := by rw [if_neg (show ¬ (false = true) by decide)] at H; exact H
      clear H
      have H := H1
      clear H1
      have H' := Aside0.mk H
      clear H
      go_wp2_with (first | ((with_reducible refine gate_callee (f := 25) rfl ?_); refine goesL_ (some 15) rfl rfl Try.func25 (by kernel_rfl) rfl #[] rfl (by (try simp only [List.map_toArray, List.map_cons, List.map_nil]); first | done | rfl | (simp only [List.length_drop, List.length_take]; rfl)) ?_; (with_reducible refine (knelllaw13_speaks.calls  false _ A5.out).mono ?_); rintro e w12 ⟨rfl, hb⟩; refine ⟨_, rfl, ?_⟩; have n0_ := Aside0.mk (below_step (by repeat (first | (with_reducible first | exact HB.out | apply below_alloc | apply pw_below_drewN | apply below_drew1) | exact HB.out)) hb); clear HB; have HB := n0_; clear n0_; (try clear hb); (try clear hb2); (try clear hk); (try clear hi)))
      go_meet
      case rel => exact ⟨_, (true), (by first | rfl | (simp; done) | (simp [*]; done)), H', ⟨by first | omega | exact Nat.le_refl _⟩, ⟨by repeat (first | (with_reducible first | exact HB.out | apply below_alloc | apply pw_below_drewN | apply below_drew1) | exact HB.out)⟩⟩
  case rest =>
    clear HC4
    try clear c1
    try clear c2
    try clear p2
    try clear c6
    try clear c7
    try clear c7b0
    try clear c7b1
    try clear c8
    try clear c9
    try clear c9b0
    obtain ⟨kq, x29_3, rfl, HA, HJ3, HB⟩ := hcut
    cases kq with
    | zero => exact absurd HA.out (by simp [knelllaw13_JudgeFront.j0])
    | succ kj3 =>
      have H := HA.out
      clear HA
      simp only [knelllaw13_JudgeFront.j0] at H
      by_cases c13 : x29_3 = true
      · subst c13
        have H1 : ((knelllaw13_speaks.f).bind fun t121 => (some t121)) = some r := by rw [if_pos rfl] at H; exact H
        clear H
        have H := H1
        clear H1
        replace H := Option.bind_eq_some_iff.mp H
        obtain ⟨t121, A140, H⟩ := H
        replace H : (some t121) = some r := H
        have A14 := Aside0.mk A140
        clear A140
        obtain rfl := Option.some.inj H
        go_wp2_with (first | ((with_reducible refine gate_callee (f := 25) rfl ?_); refine goesL_ (some 30) rfl rfl Try.func25 (by kernel_rfl) rfl #[] rfl (by (try simp only [List.map_toArray, List.map_cons, List.map_nil]); first | done | rfl | (simp only [List.length_drop, List.length_take]; rfl)) ?_; (with_reducible refine (knelllaw13_speaks.calls  t121 _ A14.out).mono ?_); rintro e w15 ⟨rfl, hb⟩; refine ⟨_, rfl, ?_⟩; have n0_ := Aside0.mk (below_step (by repeat (first | (with_reducible first | exact HB.out | apply below_alloc | apply pw_below_drewN | apply below_drew1) | exact HB.out)) hb); clear HB; have HB := n0_; clear n0_; (try clear hb); (try clear hb2); (try clear hk); (try clear hi)))
        go_ret
        exact ⟨by first | rfl | (simp [errW_none, errW_some] <;> rfl) | (simp [*, errW_none, errW_some] <;> rfl), by repeat (first | (with_reducible first | exact HB.out | apply below_alloc | apply pw_below_drewN | apply below_drew1) | exact HB.out)⟩
      · replace c13 := Bool.eq_false_iff.mpr c13
        subst c13
        have H1 : ((knelllaw11_Ofs.f kj3 l1).bind fun t122 => ((judge_Judge.f t122 a0).bind fun bt125 => (if bt125.2 = 0 then (if (wrap64 ((l1.length : Int) + 1)) = 0 then (none) else (if 0 ≤ (Int.tmod (wrap64 (a2)) (wrap64 ((l1.length : Int) + 1))) then (if (Int.tmod (wrap64 (a2)) (wrap64 ((l1.length : Int) + 1))) ≤ (l1.length : Int) then ((knelllaw11_Ofs.f kj3 (l1.take ((Int.tmod (wrap64 (a2)) (wrap64 ((l1.length : Int) + 1))) : Int).toNat)).bind fun t131 => ((judge_Judge.f t131 a0).bind fun bt134 => (if bt134.1 = (-1) then (some (bt134.2 == 0)) else (some false)))) else (none)) else (none))) else (if bt125.1 < 0 then (knelllaw13_JudgeFront.j1 kj3 a0 l1 a2 bt125.1 bt125.2 true) else (knelllaw13_JudgeFront.j1 kj3 a0 l1 a2 bt125.1 bt125.2 (decide (bt125.1 ≥ (l1.length : Int)))))))) = some r := by rw [if_neg (show ¬ (false = true) by decide)] at H; exact H
        clear H
        have H := H1
        clear H1
        replace H := Option.bind_eq_some_iff.mp H
        obtain ⟨t122, A160, H⟩ := H
        replace H : ((judge_Judge.f t122 a0).bind fun bt125 => (if bt125.2 = 0 then (if (wrap64 ((l1.length : Int) + 1)) = 0 then (none) else (if 0 ≤ (Int.tmod (wrap64 (a2)) (wrap64 ((l1.length : Int) + 1))) then (if (Int.tmod (wrap64 (a2)) (wrap64 ((l1.length : Int) + 1))) ≤ (l1.length : Int) then ((knelllaw11_Ofs.f kj3 (l1.take ((Int.tmod (wrap64 (a2)) (wrap64 ((l1.length : Int) + 1))) : Int).toNat)).bind fun t131 => ((judge_Judge.f t131 a0).bind fun bt134 => (if bt134.1 = (-1) then (some (bt134.2 == 0)) else (some false)))) else (none)) else (none))) else (if bt125.1 < 0 then (knelllaw13_JudgeFront.j1 kj3 a0 l1 a2 bt125.1 bt125.2 true) else (knelllaw13_JudgeFront.j1 kj3 a0 l1 a2 bt125.1 bt125.2 (decide (bt125.1 ≥ (l1.length : Int))))))) = some r := H
        have A16 := Aside0.mk A160
        clear A160
        replace H := Option.bind_eq_some_iff.mp H
        obtain ⟨⟨t125, t126⟩, A170, H⟩ := H
        replace H : (if t126 = 0 then (if (wrap64 ((l1.length : Int) + 1)) = 0 then (none) else (if 0 ≤ (Int.tmod (wrap64 (a2)) (wrap64 ((l1.length : Int) + 1))) then (if (Int.tmod (wrap64 (a2)) (wrap64 ((l1.length : Int) + 1))) ≤ (l1.length : Int) then ((knelllaw11_Ofs.f kj3 (l1.take ((Int.tmod (wrap64 (a2)) (wrap64 ((l1.length : Int) + 1))) : Int).toNat)).bind fun t131 => ((judge_Judge.f t131 a0).bind fun bt134 => (if bt134.1 = (-1) then (some (bt134.2 == 0)) else (some false)))) else (none)) else (none))) else (if t125 < 0 then (knelllaw13_JudgeFront.j1 kj3 a0 l1 a2 t125 t126 true) else (knelllaw13_JudgeFront.j1 kj3 a0 l1 a2 t125 t126 (decide (t125 ≥ (l1.length : Int)))))) = some r := H
        have A17 := Aside0.mk A170
        clear A170
        by_cases c18 : t126 = 0
        · rw [if_pos c18] at H
          have c18b0 : (t126 == 0) = true := beq_iff_eq.mpr c18
          have c18b1 : (t126 != 0) = false := bne_eq_false_iff_eq.mpr c18
          clear c18
          by_cases c19 : (wrap64 ((l1.length : Int) + 1)) = 0
          · rw [if_pos c19] at H
            exact absurd H (by simp)
          · rw [if_neg c19] at H
            have c19b0 : ((wrap64 ((l1.length : Int) + 1)) == 0) = false := beq_eq_false_iff_ne.mpr c19
            have c19b1 : ((wrap64 ((l1.length : Int) + 1)) != 0) = true := bne_iff_ne.mpr c19
            obtain ⟨ji20, hji20⟩ : ∃ j_ : Int, (Int.tmod (wrap64 (a2)) (wrap64 ((l1.length : Int) + 1))) = j_ := ⟨_, rfl⟩
            replace H : (if 0 ≤ (ji20) then (if (ji20) ≤ (l1.length : Int) then ((knelllaw11_Ofs.f kj3 (l1.take ((ji20) : Int).toNat)).bind fun t131 => ((judge_Judge.f t131 a0).bind fun bt134 => (if bt134.1 = (-1) then (some (bt134.2 == 0)) else (some false)))) else (none)) else (none)) = some r := by first | (rw [hji20] at H; exact H) | (simp only [hji20] at H ⊢; exact H)
            (try rw [hji20] at A16)
            (try rw [hji20] at A17)
            by_cases c21 : 0 ≤ (ji20)
            · rw [if_pos c21] at H
              have c21b0 := eq_true c21
              have c21b1 : decide (0 ≤ (ji20)) = true := decide_eq_true c21
              clear c21
              by_cases c22 : (ji20) ≤ (l1.length : Int)
              · rw [if_pos c22] at H
                have c22b0 := eq_true c22
                have c22b1 : decide ((ji20) ≤ (l1.length : Int)) = true := decide_eq_true c22
                clear c22
                obtain ⟨y127, hy127⟩ : ∃ y_ : List (S50), y_ = (l1.take ((ji20) : Int).toNat) := ⟨_, rfl⟩
                replace H : ((knelllaw11_Ofs.f kj3 y127).bind fun t131 => ((judge_Judge.f t131 a0).bind fun bt134 => (if bt134.1 = (-1) then (some (bt134.2 == 0)) else (some false)))) = some r := by first | (rw [hy127]; with_reducible exact H) | (have H2_ := (Option.bind_some _ _).symm.trans H; rw [hy127]; with_reducible exact H2_) | (have H2_ := (Option.bind_some _ _).symm.trans H; with_reducible exact H2_) | with_reducible exact H | (rw [hy127]; exact H) | exact H
                have Ny127 := Aside0.mk hy127
                clear hy127
                replace H := Option.bind_eq_some_iff.mp H
                obtain ⟨t131, A230, H⟩ := H
                replace H : ((judge_Judge.f t131 a0).bind fun bt134 => (if bt134.1 = (-1) then (some (bt134.2 == 0)) else (some false))) = some r := H
                have A23 := Aside0.mk A230
                clear A230
                replace H := Option.bind_eq_some_iff.mp H
                obtain ⟨⟨t134, t135⟩, A240, H⟩ := H
                replace H : (if t134 = (-1) then (some (t135 == 0)) else (some false)) = some r := H
                have A24 := Aside0.mk A240
                clear A240
                by_cases c25 : t134 = (-1)
                · rw [if_pos c25] at H
                  have c25b0 : (t134 == (-1)) = true := beq_iff_eq.mpr c25
                  have c25b1 : (t134 != (-1)) = false := bne_eq_false_iff_eq.mpr c25
                  clear c25
                  obtain rfl := Option.some.inj H
                  go_wp2_with (first | ((with_reducible refine gate_callee (f := 16) rfl ?_); refine goesL_ (some 33) rfl rfl Try.func16 (by kernel_rfl) rfl #[.slice A1 l1.length c1] rfl (by (try simp only [List.map_toArray, List.map_cons, List.map_nil]); first | done | rfl | (simp only [List.length_drop, List.length_take]; rfl)) ?_; (with_reducible refine (knelllaw11_Ofs.calls kj3 _ _ l1 t122 _ ?side1 ?side2 A16.out).mono ?_); (case side1 => repeat (first | exact (Kd.C_below HR1.out HB.out) | (with_reducible refine Kd.C_alloc ?_ _) | (with_reducible refine Kd.C_drewN ?_ _) | (with_reducible refine Kd.C_drew ?_))); (case side2 => exact HC1.out); rintro e w26 ⟨v123, rfl, ho0, hb⟩; refine ⟨_, rfl, ?_⟩; have n0_ := Aside0.mk (Kd.R_lower ho0 (below_size (by repeat (first | (with_reducible first | exact HB.out | apply below_alloc | apply pw_below_drewN | apply below_drew1) | exact HB.out)))); have n1_ := Aside0.mk (below_step (by repeat (first | (with_reducible first | exact HB.out | apply below_alloc | apply pw_below_drewN | apply below_drew1) | exact HB.out)) hb); clear HB; have HO124 := n0_; have HB := n1_; clear n0_ n1_; (try clear hb); (try clear hb2); (try clear hk); (try clear hi); (try clear ho0); obtain ⟨Ao27, co27, eo27⟩ := Kd.R_slice HO124.out; subst eo27) | ((with_reducible refine gate_callee (f := 37) rfl ?_); refine goesL_ (some 35) rfl rfl Try.func37 (by kernel_rfl) rfl #[.slice Ao27 t122.length co27, .int .i64 a0] rfl (by (try simp only [List.map_toArray, List.map_cons, List.map_nil]); first | done | rfl | (simp only [List.length_drop, List.length_take]; rfl)) ?_; (with_reducible refine (judge_Judge.calls _ _ t122 a0 t125 t126 _ ?side1 ?side2 A17.out).mono ?_); (case side1 => repeat (first | exact (Kd.R_reads' HO124.out).2.2 | (with_reducible refine Kd.C_alloc ?_ _) | (with_reducible refine Kd.C_drewN ?_ _) | (with_reducible refine Kd.C_drew ?_))); (case side2 => exact (Kd.R_reads' HO124.out).2.1); rintro e w28 ⟨rfl, hb⟩; refine ⟨_, rfl, ?_⟩; have n0_ := Aside0.mk (Kd.R_below (by (with_reducible repeat (first | apply Kd.R_alloc | apply Kd.R_drewN | apply Kd.R_drew)); exact HO124.out) hb); have n1_ := Aside0.mk (below_step (by repeat (first | (with_reducible first | exact HB.out | apply below_alloc | apply pw_below_drewN | apply below_drew1) | exact HB.out)) hb); clear HO124; clear HB; have HO124 := n0_; have HB := n1_; clear n0_ n1_; (try clear hb); (try clear hb2); (try clear hk); (try clear hi); have q29 : ((ji20) : Int) ≤ ((l1.length : Int) : Int) := of_decide_eq_true (by first | (with_reducible assumption) | assumption); obtain ⟨i029, hi029, _, hsz29, _⟩ := info_parts info50; have hroom29 : l1.length ≤ c1 := HC1.out; have hC29 : Kd.C k50 _ A1 l1.length l1 := HR1.out; have hcut29 := cut_to (P := Try.prog) 22 50 .i64 Try.underlying22 hi029 A1 l1.length c1 (ji20) (of_decide_eq_true (by first | (with_reducible assumption) | assumption)) q29 hroom29; have hr29 := Kd.C_take (m := ((ji20) : Int).toNat) hC29 (by omega); have hy29 : y127.length = ((ji20) : Int).toNat := (by rw [Ny127.out, List.length_take]; omega); rw [← Ny127.out] at hr29; rw [← hy29] at hcut29; have HR130 := Aside0.mk hr29; have HC130 := Aside0.mk (show y127.length ≤ c1 from by omega); clear hr29 hC29 hroom29 hi029 hsz29; have KY29 := Aside0.mk hy29; clear hy29; replace q29 := eq_true q29) | ((with_reducible refine gate_callee (f := 16) rfl ?_); refine goesL_ (some 78) rfl rfl Try.func16 (by kernel_rfl) rfl #[.slice A1 y127.length c1] rfl (by (try simp only [List.map_toArray, List.map_cons, List.map_nil]); first | done | rfl | (simp only [List.length_drop, List.length_take]; rfl)) ?_; (with_reducible refine (knelllaw11_Ofs.calls kj3 _ _ y127 t131 _ ?side1 ?side2 A23.out).mono ?_); (case side1 => repeat (first | exact (Kd.C_below HR130.out HB.out) | (with_reducible refine Kd.C_alloc ?_ _) | (with_reducible refine Kd.C_drewN ?_ _) | (with_reducible refine Kd.C_drew ?_))); (case side2 => exact HC130.out); rintro e w30 ⟨v132, rfl, ho0, hb⟩; refine ⟨_, rfl, ?_⟩; have n0_ := Aside0.mk (Kd.R_elder' (by (with_reducible repeat (first | apply Kd.R_alloc | apply Kd.R_drewN | apply Kd.R_drew)); exact HO124.out) (Kd.R_base ho0) hb); have n1_ := Aside0.mk (Kd.R_lower (Kd.R_new' ho0 (Kd.R_lt (by (with_reducible repeat (first | apply Kd.R_alloc | apply Kd.R_drewN | apply Kd.R_drew)); exact HO124.out))) (below_size (by repeat (first | (with_reducible first | exact HB.out | apply below_alloc | apply pw_below_drewN | apply below_drew1) | exact HB.out)))); have n2_ := Aside0.mk (below_step (by repeat (first | (with_reducible first | exact HB.out | apply below_alloc | apply pw_below_drewN | apply below_drew1) | exact HB.out)) hb); clear HO124; clear HB; have HO124 := n0_; have HO133 := n1_; have HB := n2_; clear n0_ n1_ n2_; (try clear hb); (try clear hb2); (try clear hk); (try clear hi); (try clear ho0); obtain ⟨Ao31, co31, eo31⟩ := Kd.R_slice HO133.out; subst eo31) | ((with_reducible refine gate_callee (f := 37) rfl ?_); refine goesL_ (some 80) rfl rfl Try.func37 (by kernel_rfl) rfl #[.slice Ao31 t131.length co31, .int .i64 a0] rfl (by (try simp only [List.map_toArray, List.map_cons, List.map_nil]); first | done | rfl | (simp only [List.length_drop, List.length_take]; rfl)) ?_; (with_reducible refine (judge_Judge.calls _ _ t131 a0 t134 t135 _ ?side1 ?side2 A24.out).mono ?_); (case side1 => repeat (first | exact (Kd.R_reads' HO133.out).2.2 | (with_reducible refine Kd.C_alloc ?_ _) | (with_reducible refine Kd.C_drewN ?_ _) | (with_reducible refine Kd.C_drew ?_))); (case side2 => exact (Kd.R_reads' HO133.out).2.1); rintro e w32 ⟨rfl, hb⟩; refine ⟨_, rfl, ?_⟩; have n0_ := Aside0.mk (Kd.R_below (by (with_reducible repeat (first | apply Kd.R_alloc | apply Kd.R_drewN | apply Kd.R_drew)); exact HO124.out) hb); have n1_ := Aside0.mk (Kd.R_below (by (with_reducible repeat (first | apply Kd.R_alloc | apply Kd.R_drewN | apply Kd.R_drew)); exact HO133.out) hb); have n2_ := Aside0.mk (below_step (by repeat (first | (with_reducible first | exact HB.out | apply below_alloc | apply pw_below_drewN | apply below_drew1) | exact HB.out)) hb); clear HO124; clear HO133; clear HB; have HO124 := n0_; have HO133 := n1_; have HB := n2_; clear n0_ n1_ n2_; (try clear hb); (try clear hb2); (try clear hk); (try clear hi)))
                  go_ret
                  exact ⟨by first | rfl | (simp [errW_none, errW_some] <;> rfl) | (simp only [← hji20]; first | rfl | (simp [errW_none, errW_some] <;> rfl)) | (simp [*, errW_none, errW_some] <;> rfl), by repeat (first | (with_reducible first | exact HB.out | apply below_alloc | apply pw_below_drewN | apply below_drew1) | exact HB.out)⟩
                · rw [if_neg c25] at H
                  have c25b0 : (t134 == (-1)) = false := beq_eq_false_iff_ne.mpr c25
                  have c25b1 : (t134 != (-1)) = true := bne_iff_ne.mpr c25
                  obtain rfl := Option.some.inj H
                  go_wp2_with (first | ((with_reducible refine gate_callee (f := 16) rfl ?_); refine goesL_ (some 33) rfl rfl Try.func16 (by kernel_rfl) rfl #[.slice A1 l1.length c1] rfl (by (try simp only [List.map_toArray, List.map_cons, List.map_nil]); first | done | rfl | (simp only [List.length_drop, List.length_take]; rfl)) ?_; (with_reducible refine (knelllaw11_Ofs.calls kj3 _ _ l1 t122 _ ?side1 ?side2 A16.out).mono ?_); (case side1 => repeat (first | exact (Kd.C_below HR1.out HB.out) | (with_reducible refine Kd.C_alloc ?_ _) | (with_reducible refine Kd.C_drewN ?_ _) | (with_reducible refine Kd.C_drew ?_))); (case side2 => exact HC1.out); rintro e w33 ⟨v123, rfl, ho0, hb⟩; refine ⟨_, rfl, ?_⟩; have n0_ := Aside0.mk (Kd.R_lower ho0 (below_size (by repeat (first | (with_reducible first | exact HB.out | apply below_alloc | apply pw_below_drewN | apply below_drew1) | exact HB.out)))); have n1_ := Aside0.mk (below_step (by repeat (first | (with_reducible first | exact HB.out | apply below_alloc | apply pw_below_drewN | apply below_drew1) | exact HB.out)) hb); clear HB; have HO124 := n0_; have HB := n1_; clear n0_ n1_; (try clear hb); (try clear hb2); (try clear hk); (try clear hi); (try clear ho0); obtain ⟨Ao34, co34, eo34⟩ := Kd.R_slice HO124.out; subst eo34) | ((with_reducible refine gate_callee (f := 37) rfl ?_); refine goesL_ (some 35) rfl rfl Try.func37 (by kernel_rfl) rfl #[.slice Ao34 t122.length co34, .int .i64 a0] rfl (by (try simp only [List.map_toArray, List.map_cons, List.map_nil]); first | done | rfl | (simp only [List.length_drop, List.length_take]; rfl)) ?_; (with_reducible refine (judge_Judge.calls _ _ t122 a0 t125 t126 _ ?side1 ?side2 A17.out).mono ?_); (case side1 => repeat (first | exact (Kd.R_reads' HO124.out).2.2 | (with_reducible refine Kd.C_alloc ?_ _) | (with_reducible refine Kd.C_drewN ?_ _) | (with_reducible refine Kd.C_drew ?_))); (case side2 => exact (Kd.R_reads' HO124.out).2.1); rintro e w35 ⟨rfl, hb⟩; refine ⟨_, rfl, ?_⟩; have n0_ := Aside0.mk (Kd.R_below (by (with_reducible repeat (first | apply Kd.R_alloc | apply Kd.R_drewN | apply Kd.R_drew)); exact HO124.out) hb); have n1_ := Aside0.mk (below_step (by repeat (first | (with_reducible first | exact HB.out | apply below_alloc | apply pw_below_drewN | apply below_drew1) | exact HB.out)) hb); clear HO124; clear HB; have HO124 := n0_; have HB := n1_; clear n0_ n1_; (try clear hb); (try clear hb2); (try clear hk); (try clear hi); have q36 : ((ji20) : Int) ≤ ((l1.length : Int) : Int) := of_decide_eq_true (by first | (with_reducible assumption) | assumption); obtain ⟨i036, hi036, _, hsz36, _⟩ := info_parts info50; have hroom36 : l1.length ≤ c1 := HC1.out; have hC36 : Kd.C k50 _ A1 l1.length l1 := HR1.out; have hcut36 := cut_to (P := Try.prog) 22 50 .i64 Try.underlying22 hi036 A1 l1.length c1 (ji20) (of_decide_eq_true (by first | (with_reducible assumption) | assumption)) q36 hroom36; have hr36 := Kd.C_take (m := ((ji20) : Int).toNat) hC36 (by omega); have hy36 : y127.length = ((ji20) : Int).toNat := (by rw [Ny127.out, List.length_take]; omega); rw [← Ny127.out] at hr36; rw [← hy36] at hcut36; have HR130 := Aside0.mk hr36; have HC130 := Aside0.mk (show y127.length ≤ c1 from by omega); clear hr36 hC36 hroom36 hi036 hsz36; have KY36 := Aside0.mk hy36; clear hy36; replace q36 := eq_true q36) | ((with_reducible refine gate_callee (f := 16) rfl ?_); refine goesL_ (some 78) rfl rfl Try.func16 (by kernel_rfl) rfl #[.slice A1 y127.length c1] rfl (by (try simp only [List.map_toArray, List.map_cons, List.map_nil]); first | done | rfl | (simp only [List.length_drop, List.length_take]; rfl)) ?_; (with_reducible refine (knelllaw11_Ofs.calls kj3 _ _ y127 t131 _ ?side1 ?side2 A23.out).mono ?_); (case side1 => repeat (first | exact (Kd.C_below HR130.out HB.out) | (with_reducible refine Kd.C_alloc ?_ _) | (with_reducible refine Kd.C_drewN ?_ _) | (with_reducible refine Kd.C_drew ?_))); (case side2 => exact HC130.out); rintro e w37 ⟨v132, rfl, ho0, hb⟩; refine ⟨_, rfl, ?_⟩; have n0_ := Aside0.mk (Kd.R_elder' (by (with_reducible repeat (first | apply Kd.R_alloc | apply Kd.R_drewN | apply Kd.R_drew)); exact HO124.out) (Kd.R_base ho0) hb); have n1_ := Aside0.mk (Kd.R_lower (Kd.R_new' ho0 (Kd.R_lt (by (with_reducible repeat (first | apply Kd.R_alloc | apply Kd.R_drewN | apply Kd.R_drew)); exact HO124.out))) (below_size (by repeat (first | (with_reducible first | exact HB.out | apply below_alloc | apply pw_below_drewN | apply below_drew1) | exact HB.out)))); have n2_ := Aside0.mk (below_step (by repeat (first | (with_reducible first | exact HB.out | apply below_alloc | apply pw_below_drewN | apply below_drew1) | exact HB.out)) hb); clear HO124; clear HB; have HO124 := n0_; have HO133 := n1_; have HB := n2_; clear n0_ n1_ n2_; (try clear hb); (try clear hb2); (try clear hk); (try clear hi); (try clear ho0); obtain ⟨Ao38, co38, eo38⟩ := Kd.R_slice HO133.out; subst eo38) | ((with_reducible refine gate_callee (f := 37) rfl ?_); refine goesL_ (some 80) rfl rfl Try.func37 (by kernel_rfl) rfl #[.slice Ao38 t131.length co38, .int .i64 a0] rfl (by (try simp only [List.map_toArray, List.map_cons, List.map_nil]); first | done | rfl | (simp only [List.length_drop, List.length_take]; rfl)) ?_; (with_reducible refine (judge_Judge.calls _ _ t131 a0 t134 t135 _ ?side1 ?side2 A24.out).mono ?_); (case side1 => repeat (first | exact (Kd.R_reads' HO133.out).2.2 | (with_reducible refine Kd.C_alloc ?_ _) | (with_reducible refine Kd.C_drewN ?_ _) | (with_reducible refine Kd.C_drew ?_))); (case side2 => exact (Kd.R_reads' HO133.out).2.1); rintro e w39 ⟨rfl, hb⟩; refine ⟨_, rfl, ?_⟩; have n0_ := Aside0.mk (Kd.R_below (by (with_reducible repeat (first | apply Kd.R_alloc | apply Kd.R_drewN | apply Kd.R_drew)); exact HO124.out) hb); have n1_ := Aside0.mk (Kd.R_below (by (with_reducible repeat (first | apply Kd.R_alloc | apply Kd.R_drewN | apply Kd.R_drew)); exact HO133.out) hb); have n2_ := Aside0.mk (below_step (by repeat (first | (with_reducible first | exact HB.out | apply below_alloc | apply pw_below_drewN | apply below_drew1) | exact HB.out)) hb); clear HO124; clear HO133; clear HB; have HO124 := n0_; have HO133 := n1_; have HB := n2_; clear n0_ n1_ n2_; (try clear hb); (try clear hb2); (try clear hk); (try clear hi)))
                  go_ret
                  exact ⟨by first | rfl | (simp [errW_none, errW_some] <;> rfl) | (simp only [← hji20]; first | rfl | (simp [errW_none, errW_some] <;> rfl)) | (simp [*, errW_none, errW_some] <;> rfl), by repeat (first | (with_reducible first | exact HB.out | apply below_alloc | apply pw_below_drewN | apply below_drew1) | exact HB.out)⟩
              · rw [if_neg c22] at H
                exact absurd H (by simp)
            · rw [if_neg c21] at H
              exact absurd H (by simp)
        · rw [if_neg c18] at H
          have c18b0 : (t126 == 0) = false := beq_eq_false_iff_ne.mpr c18
          have c18b1 : (t126 != 0) = true := bne_iff_ne.mpr c18
          have HC40 := Aside0.mk H
          clear H
          go_upto_region 6 with (first | ((with_reducible refine gate_callee (f := 16) rfl ?_); refine goesL_ (some 33) rfl rfl Try.func16 (by kernel_rfl) rfl #[.slice A1 l1.length c1] rfl (by (try simp only [List.map_toArray, List.map_cons, List.map_nil]); first | done | rfl | (simp only [List.length_drop, List.length_take]; rfl)) ?_; (with_reducible refine (knelllaw11_Ofs.calls kj3 _ _ l1 t122 _ ?side1 ?side2 A16.out).mono ?_); (case side1 => repeat (first | exact (Kd.C_below HR1.out HB.out) | (with_reducible refine Kd.C_alloc ?_ _) | (with_reducible refine Kd.C_drewN ?_ _) | (with_reducible refine Kd.C_drew ?_))); (case side2 => exact HC1.out); rintro e w41 ⟨v123, rfl, ho0, hb⟩; refine ⟨_, rfl, ?_⟩; have n0_ := Aside0.mk (Kd.R_lower ho0 (below_size (by repeat (first | (with_reducible first | exact HB.out | apply below_alloc | apply pw_below_drewN | apply below_drew1) | exact HB.out)))); have n1_ := Aside0.mk (below_step (by repeat (first | (with_reducible first | exact HB.out | apply below_alloc | apply pw_below_drewN | apply below_drew1) | exact HB.out)) hb); clear HB; have HO124 := n0_; have HB := n1_; clear n0_ n1_; (try clear hb); (try clear hb2); (try clear hk); (try clear hi); (try clear ho0); obtain ⟨Ao42, co42, eo42⟩ := Kd.R_slice HO124.out; subst eo42) | ((with_reducible refine gate_callee (f := 37) rfl ?_); refine goesL_ (some 35) rfl rfl Try.func37 (by kernel_rfl) rfl #[.slice Ao42 t122.length co42, .int .i64 a0] rfl (by (try simp only [List.map_toArray, List.map_cons, List.map_nil]); first | done | rfl | (simp only [List.length_drop, List.length_take]; rfl)) ?_; (with_reducible refine (judge_Judge.calls _ _ t122 a0 t125 t126 _ ?side1 ?side2 A17.out).mono ?_); (case side1 => repeat (first | exact (Kd.R_reads' HO124.out).2.2 | (with_reducible refine Kd.C_alloc ?_ _) | (with_reducible refine Kd.C_drewN ?_ _) | (with_reducible refine Kd.C_drew ?_))); (case side2 => exact (Kd.R_reads' HO124.out).2.1); rintro e w43 ⟨rfl, hb⟩; refine ⟨_, rfl, ?_⟩; have n0_ := Aside0.mk (Kd.R_below (by (with_reducible repeat (first | apply Kd.R_alloc | apply Kd.R_drewN | apply Kd.R_drew)); exact HO124.out) hb); have n1_ := Aside0.mk (below_step (by repeat (first | (with_reducible first | exact HB.out | apply below_alloc | apply pw_below_drewN | apply below_drew1) | exact HB.out)) hb); clear HO124; clear HB; have HO124 := n0_; have HB := n1_; clear n0_ n1_; (try clear hb); (try clear hb2); (try clear hk); (try clear hi)))
          (try simp only [Act.put, List.setIfInBounds_toArray, List.set_cons_zero, List.set_cons_succ])
          go_cut [49] (fun v49 wc => ∃ (kq : Nat) (x49_39 : Bool), v49 = .bool x49_39 ∧ Aside0 (knelllaw13_JudgeFront.j1 kq a0 l1 a2 t125 t126 x49_39 = some r) ∧ Aside0 (kq ≤ kj3) ∧ Aside0 (Below w.heap.size w wc))
          case first =>
            have H := HC40.out
            clear HC40
            by_cases c44 : t125 < 0
            · rw [if_pos c44] at H
              have c44b0 : decide (t125 < 0) = true := decide_eq_true c44
              clear c44
              (first | rw [c44b0] | (simp only [i64_w, i32_w]; rw [c44b0]) | skip)
              have H' := Aside0.mk H
              clear H
              go_wp2
              go_meet
              case rel => exact ⟨_, (true), (by first | rfl | (simp; done) | (simp [*]; done)), H', ⟨by have := HJ3.out; first | omega | exact Nat.le_refl _⟩, ⟨by repeat (first | (with_reducible first | exact HB.out | apply below_alloc | apply pw_below_drewN | apply below_drew1) | exact HB.out)⟩⟩
            · rw [if_neg c44] at H
              have c44b0 : decide (t125 < 0) = false := decide_eq_false c44
              clear c44
              (first | rw [c44b0] | (simp only [i64_w, i32_w]; rw [c44b0]) | skip)
              have H' := Aside0.mk H
              clear H
              go_wp2
              go_meet
              case rel => exact ⟨_, (decide (t125 ≥ (l1.length : Int))), (by first | rfl | (simp; done) | (simp [*]; done)), H', ⟨by have := HJ3.out; first | omega | exact Nat.le_refl _⟩, ⟨by repeat (first | (with_reducible first | exact HB.out | apply below_alloc | apply pw_below_drewN | apply below_drew1) | exact HB.out)⟩⟩
          case rest =>
            clear HC40
            try clear c1
            try clear c2
            try clear p2
            try clear q2
            try clear c3
            try clear q3
            try clear c4
            try clear c6
            try clear p6
            try clear c7
            try clear c7b0
            try clear c7b1
            try clear c8
            try clear c9
            try clear c9b0
            try clear c13
            try clear c16
            try clear c18
            try clear c18b0
            try clear c18b1
            try clear c19
            try clear c19b0
            try clear c19b1
            try clear c21
            try clear c21b0
            try clear c21b1
            try clear c22
            try clear c22b0
            try clear c22b1
            try clear c25
            try clear c25b0
            try clear c25b1
            try clear q29
            try clear q36
            try clear c37
            try clear c44
            try clear c44b0
            try clear p2
            try clear q29
            try clear q36
            obtain ⟨kq, x49_39, rfl, HA, HJ39, HB⟩ := hcut
            cases kq with
            | zero => exact absurd HA.out (by simp [knelllaw13_JudgeFront.j1])
            | succ kj39 =>
              have H := HA.out
              clear HA
              simp only [knelllaw13_JudgeFront.j1] at H
              by_cases c45 : x49_39 = true
              · subst c45
                have H1 : (some false) = some r := by rw [if_pos rfl] at H; exact H
                clear H
                have H := H1
                clear H1
                obtain rfl := Option.some.inj H
                go_wp2
                go_ret
                exact ⟨by first | rfl | (simp [errW_none, errW_some] <;> rfl) | (simp [*, errW_none, errW_some] <;> rfl), by repeat (first | (with_reducible first | exact HB.out | apply below_alloc | apply pw_below_drewN | apply below_drew1) | exact HB.out)⟩
              · replace c45 := Bool.eq_false_iff.mpr c45
                subst c45
                have H1 : (if 0 ≤ (wrap64 (t125 + 1)) then (if (wrap64 (t125 + 1)) ≤ (l1.length : Int) then ((knelllaw11_Ofs.f kj39 (l1.take ((wrap64 (t125 + 1)) : Int).toNat)).bind fun t140 => ((judge_Judge.f t140 a0).bind fun bt143 => (if bt143.1 = t125 then (knelllaw13_JudgeFront.j2 kj39 a0 l1 a2 t125 (bt143.2 != t126)) else (knelllaw13_JudgeFront.j2 kj39 a0 l1 a2 t125 true)))) else (none)) else (none)) = some r := by rw [if_neg (show ¬ (false = true) by decide)] at H; exact H
                clear H
                have H := H1
                clear H1
                obtain ⟨ji46, hji46⟩ : ∃ j_ : Int, (wrap64 (t125 + 1)) = j_ := ⟨_, rfl⟩
                replace H : (if 0 ≤ (ji46) then (if (ji46) ≤ (l1.length : Int) then ((knelllaw11_Ofs.f kj39 (l1.take ((ji46) : Int).toNat)).bind fun t140 => ((judge_Judge.f t140 a0).bind fun bt143 => (if bt143.1 = t125 then (knelllaw13_JudgeFront.j2 kj39 a0 l1 a2 t125 (bt143.2 != t126)) else (knelllaw13_JudgeFront.j2 kj39 a0 l1 a2 t125 true)))) else (none)) else (none)) = some r := by first | (rw [hji46] at H; exact H) | (simp only [hji46] at H ⊢; exact H)
                have hji46w : (IntKind.i64.wrap (t125 + 1)) = ji46 := (i64_w _).trans hji46
                by_cases c47 : 0 ≤ (ji46)
                · rw [if_pos c47] at H
                  have c47b0 := eq_true c47
                  have c47b1 : decide (0 ≤ (ji46)) = true := decide_eq_true c47
                  clear c47
                  by_cases c48 : (ji46) ≤ (l1.length : Int)
                  · rw [if_pos c48] at H
                    have c48b0 := eq_true c48
                    have c48b1 : decide ((ji46) ≤ (l1.length : Int)) = true := decide_eq_true c48
                    clear c48
                    obtain ⟨y136, hy136⟩ : ∃ y_ : List (S50), y_ = (l1.take ((ji46) : Int).toNat) := ⟨_, rfl⟩
                    replace H : ((knelllaw11_Ofs.f kj39 y136).bind fun t140 => ((judge_Judge.f t140 a0).bind fun bt143 => (if bt143.1 = t125 then (knelllaw13_JudgeFront.j2 kj39 a0 l1 a2 t125 (bt143.2 != t126)) else (knelllaw13_JudgeFront.j2 kj39 a0 l1 a2 t125 true)))) = some r := by first | (rw [hy136]; with_reducible exact H) | (have H2_ := (Option.bind_some _ _).symm.trans H; rw [hy136]; with_reducible exact H2_) | (have H2_ := (Option.bind_some _ _).symm.trans H; with_reducible exact H2_) | with_reducible exact H | (rw [hy136]; exact H) | exact H
                    have Ny136 := Aside0.mk hy136
                    clear hy136
                    replace H := Option.bind_eq_some_iff.mp H
                    obtain ⟨t140, A490, H⟩ := H
                    replace H : ((judge_Judge.f t140 a0).bind fun bt143 => (if bt143.1 = t125 then (knelllaw13_JudgeFront.j2 kj39 a0 l1 a2 t125 (bt143.2 != t126)) else (knelllaw13_JudgeFront.j2 kj39 a0 l1 a2 t125 true))) = some r := H
                    have A49 := Aside0.mk A490
                    clear A490
                    replace H := Option.bind_eq_some_iff.mp H
                    obtain ⟨⟨t143, t144⟩, A500, H⟩ := H
                    replace H : (if t143 = t125 then (knelllaw13_JudgeFront.j2 kj39 a0 l1 a2 t125 (t144 != t126)) else (knelllaw13_JudgeFront.j2 kj39 a0 l1 a2 t125 true)) = some r := H
                    have A50 := Aside0.mk A500
                    clear A500
                    have HC51 := Aside0.mk H
                    clear H
                    have q52 : ((ji46) : Int) ≤ ((l1.length : Int) : Int) := of_decide_eq_true (by first | (with_reducible assumption) | assumption)
                    obtain ⟨i052, hi052, _, hsz52, _⟩ := info_parts info50
                    have hroom52 : l1.length ≤ c1 := HC1.out
                    have hC52 : Kd.C k50 _ A1 l1.length l1 := HR1.out
                    have hcut52 := cut_to (P := Try.prog) 22 50 .i64 Try.underlying22 hi052 A1 l1.length c1 (ji46) (of_decide_eq_true (by first | (with_reducible assumption) | assumption)) q52 hroom52
                    have hr52 := Kd.C_take (m := ((ji46) : Int).toNat) hC52 (by omega)
                    have hy52 : y136.length = ((ji46) : Int).toNat := (by rw [Ny136.out, List.length_take]; omega)
                    rw [← Ny136.out] at hr52
                    rw [← hy52] at hcut52
                    have HR139 := Aside0.mk hr52
                    have HC139 := Aside0.mk (show y136.length ≤ c1 from by omega)
                    clear hr52 hC52 hroom52 hi052 hsz52
                    have KY52 := Aside0.mk hy52
                    clear hy52
                    replace q52 := eq_true q52
                    go_upto_region 10 with (first | ((with_reducible refine gate_callee (f := 16) rfl ?_); refine goesL_ (some 56) rfl rfl Try.func16 (by kernel_rfl) rfl #[.slice A1 y136.length c1] rfl (by (try simp only [List.map_toArray, List.map_cons, List.map_nil]); first | done | rfl | (simp only [List.length_drop, List.length_take]; rfl)) ?_; (with_reducible refine (knelllaw11_Ofs.calls kj39 _ _ y136 t140 _ ?side1 ?side2 A49.out).mono ?_); (case side1 => repeat (first | exact (Kd.C_below HR139.out HB.out) | (with_reducible refine Kd.C_alloc ?_ _) | (with_reducible refine Kd.C_drewN ?_ _) | (with_reducible refine Kd.C_drew ?_))); (case side2 => exact HC139.out); rintro e w53 ⟨v141, rfl, ho0, hb⟩; refine ⟨_, rfl, ?_⟩; have n0_ := Aside0.mk (Kd.R_lower ho0 (below_size (by repeat (first | (with_reducible first | exact HB.out | apply below_alloc | apply pw_below_drewN | apply below_drew1) | exact HB.out)))); have n1_ := Aside0.mk (below_step (by repeat (first | (with_reducible first | exact HB.out | apply below_alloc | apply pw_below_drewN | apply below_drew1) | exact HB.out)) hb); clear HB; have HO142 := n0_; have HB := n1_; clear n0_ n1_; (try clear hb); (try clear hb2); (try clear hk); (try clear hi); (try clear ho0); obtain ⟨Ao54, co54, eo54⟩ := Kd.R_slice HO142.out; subst eo54) | ((with_reducible refine gate_callee (f := 37) rfl ?_); refine goesL_ (some 58) rfl rfl Try.func37 (by kernel_rfl) rfl #[.slice Ao54 t140.length co54, .int .i64 a0] rfl (by (try simp only [List.map_toArray, List.map_cons, List.map_nil]); first | done | rfl | (simp only [List.length_drop, List.length_take]; rfl)) ?_; (with_reducible refine (judge_Judge.calls _ _ t140 a0 t143 t144 _ ?side1 ?side2 A50.out).mono ?_); (case side1 => repeat (first | exact (Kd.R_reads' HO142.out).2.2 | (with_reducible refine Kd.C_alloc ?_ _) | (with_reducible refine Kd.C_drewN ?_ _) | (with_reducible refine Kd.C_drew ?_))); (case side2 => exact (Kd.R_reads' HO142.out).2.1); rintro e w55 ⟨rfl, hb⟩; refine ⟨_, rfl, ?_⟩; have n0_ := Aside0.mk (Kd.R_below (by (with_reducible repeat (first | apply Kd.R_alloc | apply Kd.R_drewN | apply Kd.R_drew)); exact HO142.out) hb); have n1_ := Aside0.mk (below_step (by repeat (first | (with_reducible first | exact HB.out | apply below_alloc | apply pw_below_drewN | apply below_drew1) | exact HB.out)) hb); clear HO142; clear HB; have HO142 := n0_; have HB := n1_; clear n0_ n1_; (try clear hb); (try clear hb2); (try clear hk); (try clear hi)))
                    (try simp only [Act.put, List.setIfInBounds_toArray, List.set_cons_zero, List.set_cons_succ])
                    go_cut [68] (fun v68 wc => ∃ (kq : Nat) (x68_50 : Bool), v68 = .bool x68_50 ∧ Aside0 (knelllaw13_JudgeFront.j2 kq a0 l1 a2 t125 x68_50 = some r) ∧ Aside0 (kq ≤ kj39) ∧ Aside0 (Below w.heap.size w wc))
                    case first =>
                      have H := HC51.out
                      clear HC51
                      by_cases c56 : t143 = t125
                      · rw [if_pos c56] at H
                        have c56b0 : (t143 == t125) = true := beq_iff_eq.mpr c56
                        have c56b1 : (t143 != t125) = false := bne_eq_false_iff_eq.mpr c56
                        clear c56
                        (first | rw [c56b0] | (simp only [i64_w, i32_w]; rw [c56b0]) | skip)
                        have H' := Aside0.mk H
                        clear H
                        go_wp2
                        go_meet
                        case rel => exact ⟨_, ((t144 != t126)), (by first | rfl | (simp; done) | (simp [*]; done)), H', ⟨by have := HJ3.out; have := HJ39.out; first | omega | exact Nat.le_refl _⟩, ⟨by repeat (first | (with_reducible first | exact HB.out | apply below_alloc | apply pw_below_drewN | apply below_drew1) | exact HB.out)⟩⟩
                      · rw [if_neg c56] at H
                        have c56b0 : (t143 == t125) = false := beq_eq_false_iff_ne.mpr c56
                        have c56b1 : (t143 != t125) = true := bne_iff_ne.mpr c56
                        (first | rw [c56b0] | (simp only [i64_w, i32_w]; rw [c56b0]) | skip)
                        have H' := Aside0.mk H
                        clear H
                        go_wp2
                        go_meet
                        case rel => exact ⟨_, (true), (by first | rfl | (simp; done) | (simp [*]; done)), H', ⟨by have := HJ3.out; have := HJ39.out; first | omega | exact Nat.le_refl _⟩, ⟨by repeat (first | (with_reducible first | exact HB.out | apply below_alloc | apply pw_below_drewN | apply below_drew1) | exact HB.out)⟩⟩
                    case rest =>
                      clear HC51
                      try clear c1
                      try clear c2
                      try clear p2
                      try clear q2
                      try clear c3
                      try clear q3
                      try clear c4
                      try clear c5
                      try clear q5
                      try clear c6
                      try clear p6
                      try clear c7
                      try clear c7b0
                      try clear c7b1
                      try clear c8
                      try clear c9
                      try clear c9b0
                      try clear c13
                      try clear c16
                      try clear c18
                      try clear c18b0
                      try clear c18b1
                      try clear c19
                      try clear c19b0
                      try clear c19b1
                      try clear c21
                      try clear c21b0
                      try clear c21b1
                      try clear c22
                      try clear c22b0
                      try clear c22b1
                      try clear c25
                      try clear c25b0
                      try clear c25b1
                      try clear q29
                      try clear q36
                      try clear c37
                      try clear c44
                      try clear c44b0
                      try clear c45
                      try clear c47
                      try clear c47b0
                      try clear c47b1
                      try clear c48
                      try clear c48b0
                      try clear c48b1
                      try clear q52
                      try clear c56
                      try clear c56b0
                      try clear c56b1
                      try clear p2
                      try clear p6
                      try clear q2
                      try clear q29
                      try clear q3
                      try clear q36
                      try clear q52
                      obtain ⟨kq, x68_50, rfl, HA, HJ50, HB⟩ := hcut
                      cases kq with
                      | zero => exact absurd HA.out (by simp [knelllaw13_JudgeFront.j2])
                      | succ kj50 =>
                        have H := HA.out
                        clear HA
                        simp only [knelllaw13_JudgeFront.j2] at H
                        by_cases c57 : x68_50 = true
                        · subst c57
                          have H1 : (some false) = some r := by rw [if_pos rfl] at H; exact H
                          clear H
                          have H := H1
                          clear H1
                          obtain rfl := Option.some.inj H
                          go_wp2
                          go_ret
                          exact ⟨by first | rfl | (simp [errW_none, errW_some] <;> rfl) | (simp only [← hji46]; first | rfl | (simp [errW_none, errW_some] <;> rfl)) | (simp [*, errW_none, errW_some] <;> rfl), by repeat (first | (with_reducible first | exact HB.out | apply below_alloc | apply pw_below_drewN | apply below_drew1) | exact HB.out)⟩
                        · replace c57 := Bool.eq_false_iff.mpr c57
                          subst c57
                          have H1 : (if (wrap64 (t125 + 1)) = 0 then (none) else (if 0 ≤ (Int.tmod (wrap64 (a2)) (wrap64 (t125 + 1))) then (if (Int.tmod (wrap64 (a2)) (wrap64 (t125 + 1))) ≤ (l1.length : Int) then ((knelllaw11_Ofs.f kj50 (l1.take ((Int.tmod (wrap64 (a2)) (wrap64 (t125 + 1))) : Int).toNat)).bind fun t149 => ((judge_Judge.f t149 a0).bind fun bt152 => (if bt152.1 = (-1) then (some (bt152.2 == 0)) else (some false)))) else (none)) else (none))) = some r := by rw [if_neg (show ¬ (false = true) by decide)] at H; exact H
                          clear H
                          have H := H1
                          clear H1
                          by_cases c58 : (wrap64 (t125 + 1)) = 0
                          · rw [if_pos c58] at H
                            exact absurd H (by simp)
                          · rw [if_neg c58] at H
                            have c58b0 : ((wrap64 (t125 + 1)) == 0) = false := beq_eq_false_iff_ne.mpr c58
                            have c58b1 : ((wrap64 (t125 + 1)) != 0) = true := bne_iff_ne.mpr c58
                            obtain ⟨ji59, hji59⟩ : ∃ j_ : Int, (Int.tmod (wrap64 (a2)) (wrap64 (t125 + 1))) = j_ := ⟨_, rfl⟩
                            have hji59z : (Int.tmod (wrap64 (a2)) ji46) = ji59 := by rw [← hji46]; exact hji59
                            replace H : (if 0 ≤ (ji59) then (if (ji59) ≤ (l1.length : Int) then ((knelllaw11_Ofs.f kj50 (l1.take ((ji59) : Int).toNat)).bind fun t149 => ((judge_Judge.f t149 a0).bind fun bt152 => (if bt152.1 = (-1) then (some (bt152.2 == 0)) else (some false)))) else (none)) else (none)) = some r := by first | (rw [hji59] at H; exact H) | (simp only [hji59] at H ⊢; exact H)
                            by_cases c60 : 0 ≤ (ji59)
                            · rw [if_pos c60] at H
                              have c60b0 := eq_true c60
                              have c60b1 : decide (0 ≤ (ji59)) = true := decide_eq_true c60
                              clear c60
                              by_cases c61 : (ji59) ≤ (l1.length : Int)
                              · rw [if_pos c61] at H
                                have c61b0 := eq_true c61
                                have c61b1 : decide ((ji59) ≤ (l1.length : Int)) = true := decide_eq_true c61
                                clear c61
                                obtain ⟨y145, hy145⟩ : ∃ y_ : List (S50), y_ = (l1.take ((ji59) : Int).toNat) := ⟨_, rfl⟩
                                replace H : ((knelllaw11_Ofs.f kj50 y145).bind fun t149 => ((judge_Judge.f t149 a0).bind fun bt152 => (if bt152.1 = (-1) then (some (bt152.2 == 0)) else (some false)))) = some r := by first | (rw [hy145]; with_reducible exact H) | (have H2_ := (Option.bind_some _ _).symm.trans H; rw [hy145]; with_reducible exact H2_) | (have H2_ := (Option.bind_some _ _).symm.trans H; with_reducible exact H2_) | with_reducible exact H | (rw [hy145]; exact H) | exact H
                                have Ny145 := Aside0.mk hy145
                                clear hy145
                                replace H := Option.bind_eq_some_iff.mp H
                                obtain ⟨t149, A620, H⟩ := H
                                replace H : ((judge_Judge.f t149 a0).bind fun bt152 => (if bt152.1 = (-1) then (some (bt152.2 == 0)) else (some false))) = some r := H
                                have A62 := Aside0.mk A620
                                clear A620
                                replace H := Option.bind_eq_some_iff.mp H
                                obtain ⟨⟨t152, t153⟩, A630, H⟩ := H
                                replace H : (if t152 = (-1) then (some (t153 == 0)) else (some false)) = some r := H
                                have A63 := Aside0.mk A630
                                clear A630
                                by_cases c64 : t152 = (-1)
                                · rw [if_pos c64] at H
                                  have c64b0 : (t152 == (-1)) = true := beq_iff_eq.mpr c64
                                  have c64b1 : (t152 != (-1)) = false := bne_eq_false_iff_eq.mpr c64
                                  clear c64
                                  obtain rfl := Option.some.inj H
                                  have q65 : ((ji59) : Int) ≤ ((l1.length : Int) : Int) := of_decide_eq_true (by first | (with_reducible assumption) | assumption)
                                  obtain ⟨i065, hi065, _, hsz65, _⟩ := info_parts info50
                                  have hroom65 : l1.length ≤ c1 := HC1.out
                                  have hC65 : Kd.C k50 _ A1 l1.length l1 := HR1.out
                                  have hcut65 := cut_to (P := Try.prog) 22 50 .i64 Try.underlying22 hi065 A1 l1.length c1 (ji59) (of_decide_eq_true (by first | (with_reducible assumption) | assumption)) q65 hroom65
                                  have hr65 := Kd.C_take (m := ((ji59) : Int).toNat) hC65 (by omega)
                                  have hy65 : y145.length = ((ji59) : Int).toNat := (by rw [Ny145.out, List.length_take]; omega)
                                  rw [← Ny145.out] at hr65
                                  rw [← hy65] at hcut65
                                  have HR148 := Aside0.mk hr65
                                  have HC148 := Aside0.mk (show y145.length ≤ c1 from by omega)
                                  clear hr65 hC65 hroom65 hi065 hsz65
                                  have KY65 := Aside0.mk hy65
                                  clear hy65
                                  replace q65 := eq_true q65
                                  go_wp2_with (first | ((with_reducible refine gate_callee (f := 16) rfl ?_); refine goesL_ (some 78) rfl rfl Try.func16 (by kernel_rfl) rfl #[.slice A1 y145.length c1] rfl (by (try simp only [List.map_toArray, List.map_cons, List.map_nil]); first | done | rfl | (simp only [List.length_drop, List.length_take]; rfl)) ?_; (with_reducible refine (knelllaw11_Ofs.calls kj50 _ _ y145 t149 _ ?side1 ?side2 A62.out).mono ?_); (case side1 => repeat (first | exact (Kd.C_below HR148.out HB.out) | (with_reducible refine Kd.C_alloc ?_ _) | (with_reducible refine Kd.C_drewN ?_ _) | (with_reducible refine Kd.C_drew ?_))); (case side2 => exact HC148.out); rintro e w66 ⟨v150, rfl, ho0, hb⟩; refine ⟨_, rfl, ?_⟩; have n0_ := Aside0.mk (Kd.R_lower ho0 (below_size (by repeat (first | (with_reducible first | exact HB.out | apply below_alloc | apply pw_below_drewN | apply below_drew1) | exact HB.out)))); have n1_ := Aside0.mk (below_step (by repeat (first | (with_reducible first | exact HB.out | apply below_alloc | apply pw_below_drewN | apply below_drew1) | exact HB.out)) hb); clear HB; have HO151 := n0_; have HB := n1_; clear n0_ n1_; (try clear hb); (try clear hb2); (try clear hk); (try clear hi); (try clear ho0); obtain ⟨Ao67, co67, eo67⟩ := Kd.R_slice HO151.out; subst eo67) | ((with_reducible refine gate_callee (f := 37) rfl ?_); refine goesL_ (some 80) rfl rfl Try.func37 (by kernel_rfl) rfl #[.slice Ao67 t149.length co67, .int .i64 a0] rfl (by (try simp only [List.map_toArray, List.map_cons, List.map_nil]); first | done | rfl | (simp only [List.length_drop, List.length_take]; rfl)) ?_; (with_reducible refine (judge_Judge.calls _ _ t149 a0 t152 t153 _ ?side1 ?side2 A63.out).mono ?_); (case side1 => repeat (first | exact (Kd.R_reads' HO151.out).2.2 | (with_reducible refine Kd.C_alloc ?_ _) | (with_reducible refine Kd.C_drewN ?_ _) | (with_reducible refine Kd.C_drew ?_))); (case side2 => exact (Kd.R_reads' HO151.out).2.1); rintro e w68 ⟨rfl, hb⟩; refine ⟨_, rfl, ?_⟩; have n0_ := Aside0.mk (Kd.R_below (by (with_reducible repeat (first | apply Kd.R_alloc | apply Kd.R_drewN | apply Kd.R_drew)); exact HO151.out) hb); have n1_ := Aside0.mk (below_step (by repeat (first | (with_reducible first | exact HB.out | apply below_alloc | apply pw_below_drewN | apply below_drew1) | exact HB.out)) hb); clear HO151; clear HB; have HO151 := n0_; have HB := n1_; clear n0_ n1_; (try clear hb); (try clear hb2); (try clear hk); (try clear hi)))
                                  go_ret
                                  exact ⟨by first | rfl | (simp [errW_none, errW_some] <;> rfl) | (simp only [← hji46, ← hji59]; first | rfl | (simp [errW_none, errW_some] <;> rfl)) | (simp [*, errW_none, errW_some] <;> rfl), by repeat (first | (with_reducible first | exact HB.out | apply below_alloc | apply pw_below_drewN | apply below_drew1) | exact HB.out)⟩
                                · rw [if_neg c64] at H
                                  have c64b0 : (t152 == (-1)) = false := beq_eq_false_iff_ne.mpr c64
                                  have c64b1 : (t152 != (-1)) = true := bne_iff_ne.mpr c64
                                  obtain rfl := Option.some.inj H
                                  have q69 : ((ji59) : Int) ≤ ((l1.length : Int) : Int) := of_decide_eq_true (by first | (with_reducible assumption) | assumption)
                                  obtain ⟨i069, hi069, _, hsz69, _⟩ := info_parts info50
                                  have hroom69 : l1.length ≤ c1 := HC1.out
                                  have hC69 : Kd.C k50 _ A1 l1.length l1 := HR1.out
                                  have hcut69 := cut_to (P := Try.prog) 22 50 .i64 Try.underlying22 hi069 A1 l1.length c1 (ji59) (of_decide_eq_true (by first | (with_reducible assumption) | assumption)) q69 hroom69
                                  have hr69 := Kd.C_take (m := ((ji59) : Int).toNat) hC69 (by omega)
                                  have hy69 : y145.length = ((ji59) : Int).toNat := (by rw [Ny145.out, List.length_take]; omega)
                                  rw [← Ny145.out] at hr69
                                  rw [← hy69] at hcut69
                                  have HR148 := Aside0.mk hr69
                                  have HC148 := Aside0.mk (show y145.length ≤ c1 from by omega)
                                  clear hr69 hC69 hroom69 hi069 hsz69
                                  have KY69 := Aside0.mk hy69
                                  clear hy69
                                  replace q69 := eq_true q69
                                  go_wp2_with (first | ((with_reducible refine gate_callee (f := 16) rfl ?_); refine goesL_ (some 78) rfl rfl Try.func16 (by kernel_rfl) rfl #[.slice A1 y145.length c1] rfl (by (try simp only [List.map_toArray, List.map_cons, List.map_nil]); first | done | rfl | (simp only [List.length_drop, List.length_take]; rfl)) ?_; (with_reducible refine (knelllaw11_Ofs.calls kj50 _ _ y145 t149 _ ?side1 ?side2 A62.out).mono ?_); (case side1 => repeat (first | exact (Kd.C_below HR148.out HB.out) | (with_reducible refine Kd.C_alloc ?_ _) | (with_reducible refine Kd.C_drewN ?_ _) | (with_reducible refine Kd.C_drew ?_))); (case side2 => exact HC148.out); rintro e w70 ⟨v150, rfl, ho0, hb⟩; refine ⟨_, rfl, ?_⟩; have n0_ := Aside0.mk (Kd.R_lower ho0 (below_size (by repeat (first | (with_reducible first | exact HB.out | apply below_alloc | apply pw_below_drewN | apply below_drew1) | exact HB.out)))); have n1_ := Aside0.mk (below_step (by repeat (first | (with_reducible first | exact HB.out | apply below_alloc | apply pw_below_drewN | apply below_drew1) | exact HB.out)) hb); clear HB; have HO151 := n0_; have HB := n1_; clear n0_ n1_; (try clear hb); (try clear hb2); (try clear hk); (try clear hi); (try clear ho0); obtain ⟨Ao71, co71, eo71⟩ := Kd.R_slice HO151.out; subst eo71) | ((with_reducible refine gate_callee (f := 37) rfl ?_); refine goesL_ (some 80) rfl rfl Try.func37 (by kernel_rfl) rfl #[.slice Ao71 t149.length co71, .int .i64 a0] rfl (by (try simp only [List.map_toArray, List.map_cons, List.map_nil]); first | done | rfl | (simp only [List.length_drop, List.length_take]; rfl)) ?_; (with_reducible refine (judge_Judge.calls _ _ t149 a0 t152 t153 _ ?side1 ?side2 A63.out).mono ?_); (case side1 => repeat (first | exact (Kd.R_reads' HO151.out).2.2 | (with_reducible refine Kd.C_alloc ?_ _) | (with_reducible refine Kd.C_drewN ?_ _) | (with_reducible refine Kd.C_drew ?_))); (case side2 => exact (Kd.R_reads' HO151.out).2.1); rintro e w72 ⟨rfl, hb⟩; refine ⟨_, rfl, ?_⟩; have n0_ := Aside0.mk (Kd.R_below (by (with_reducible repeat (first | apply Kd.R_alloc | apply Kd.R_drewN | apply Kd.R_drew)); exact HO151.out) hb); have n1_ := Aside0.mk (below_step (by repeat (first | (with_reducible first | exact HB.out | apply below_alloc | apply pw_below_drewN | apply below_drew1) | exact HB.out)) hb); clear HO151; clear HB; have HO151 := n0_; have HB := n1_; clear n0_ n1_; (try clear hb); (try clear hb2); (try clear hk); (try clear hi)))
                                  go_ret
                                  exact ⟨by first | rfl | (simp [errW_none, errW_some] <;> rfl) | (simp only [← hji46, ← hji59]; first | rfl | (simp [errW_none, errW_some] <;> rfl)) | (simp [*, errW_none, errW_some] <;> rfl), by repeat (first | (with_reducible first | exact HB.out | apply below_alloc | apply pw_below_drewN | apply below_drew1) | exact HB.out)⟩
                              · rw [if_neg c61] at H
                                exact absurd H (by simp)
                            · rw [if_neg c60] at H
                              exact absurd H (by simp)
                  · rw [if_neg c48] at H
                    exact absurd H (by simp)
                · rw [if_neg c47] at H
                  exact absurd H (by simp)
end Go.Proofs.Ythniclbmpeklmaa.KJu
end
section
namespace Go.Proofs.Ythniclbmpeklmaa.KJu
open Go.RowKit Go.Proofs.YthniclbmpeklmaaW.PrintWords Go.Proofs.Ythniclbmpeklmaa.Ju
open Go.Proofs.YthniclbmpeklmaaW.PrintWords renaming Ev → PE
set_option linter.unusedVariables false
set_option linter.unusedSimpArgs false
theorem Ev.self {α : Type} {g : Nat → Option α} {r : α} (h : ∀ k, g (k + 1) = some r) : PE g r := PE.step h (PE.now r)
theorem w64 {i n : Nat} (h : i < n) (hn : n ≤ 1000000) : wrap64 ((i : Int) + 1) = ((i + 1 : Nat) : Int) := by unfold wrap64; omega
def toE (x : S50) : Au.Ev := ⟨x.f0, x.f1, x.f2, x.f3.f0, x.f3.f1, x.f4.f0, x.f4.f1, x.f5, x.f6, x.f7, x.f8, x.f9⟩
def ofS (x : S50) : S54 := ⟨x.f0, x.f1, x.f2, ⟨x.f3.f0, x.f3.f1⟩, ⟨x.f4.f0, x.f4.f1⟩, x.f5, x.f6, x.f7, x.f8, x.f9⟩
theorem ofs_is (l : List S50) (hn : l.length ≤ 1000000) : PE (fun k => knelllaw11_Ofs.f k l) (l.map ofS) := by
  have go : ∀ d i, i + d = l.length → PE (fun k => knelllaw11_Ofs.l0 k ((l.take i).map ofS) l (l.length : Int) (i : Int)) (l.map ofS) := by
    intro d
    induction d with
    | zero =>
      intro i hd
      obtain rfl : i = l.length := by omega
      refine Ev.self fun k => ?_
      rw [knelllaw11_Ofs.l0, if_neg (by omega), List.take_length]
    | succ d ih =>
      intro i hd
      refine PE.step (f := fun k => knelllaw11_Ofs.l0 k ((l.take (i + 1)).map ofS) l (l.length : Int) ((i + 1 : Nat) : Int)) (fun k => ?_) (ih (i + 1) (by omega))
      have hi : i < l.length := by omega
      have hrd : rd_T50 l (i : Int) = l[i] := by show l.getD i z50 = l[i]; simp [List.getD, hi]
      rw [knelllaw11_Ofs.l0, if_pos (by omega), if_pos (by omega), if_pos (by omega)]
      unfold knelllaw11_Of.f
      simp only [Option.bind_some]
      rw [if_pos (by simp; omega), w64 hi hn, hrd, List.take_succ_eq_append_getElem hi, List.map_append]
      rfl
  exact go l.length 0 (by omega)
theorem wf_ofS {l : List S50} (hw : ∀ x ∈ l, wfB' (toE x) = true) : ((l.map ofS).all fun x => wfB' (judge_Judge.ev x)) = true := by
  rw [List.all_eq_true]
  intro y hy
  obtain ⟨x, hx, rfl⟩ := List.mem_map.1 hy
  exact hw x hx
theorem jj {l : List S50} (hn : l.length ≤ 1000) (hw : ∀ x ∈ l, wfB' (toE x) = true) (a0 : Int) : judge_Judge.f (l.map ofS) a0 = some (judgeF (l.map toE) a0) := by
  unfold judge_Judge.f
  rw [if_pos ⟨by rw [List.length_map]; omega, wf_ofS hw⟩, List.map_map]
  rfl
theorem tm {a n : Nat} (ha : a ≤ 255) (hn : n ≤ 1000) : Int.tmod (wrap64 (a : Int)) (wrap64 ((n : Int) + 1)) = ((a % (n + 1) : Nat) : Int) := by
  have h1 : wrap64 (a : Int) = (a : Int) := by unfold wrap64; omega
  have h2 : wrap64 ((n : Int) + 1) = ((n + 1 : Nat) : Int) := by unfold wrap64; omega
  rw [h1, h2]
  rfl
theorem judge_at {l : List Au.Ev} {a0 : Int} (h0 : ¬ (a0 < 1 ∨ 64 < a0)) : judgeF l a0 = outF (goF (be0 a0) l) := by unfold judgeF; rw [if_neg h0]
theorem front (a0 : Int) (h0 : ¬ (a0 < 1 ∨ 64 < a0)) (l : List S50) (hn : l.length ≤ 60) (a : Nat) (ha : a ≤ 255) (hw : ∀ x ∈ l, wfB' (toE x) = true) : PE (fun k => knelllaw13_JudgeFront.j0 k a0 l (a : Int) false) true := by
  have tk : ∀ m, PE (fun k => knelllaw11_Ofs.f k (l.take m)) ((l.take m).map ofS) := fun m => ofs_is _ (by rw [List.length_take]; omega)
  have jt : ∀ m, judge_Judge.f ((l.take m).map ofS) a0 = some (outF (goF (be0 a0) ((l.map toE).take m))) := fun m => by
    rw [jj (by rw [List.length_take]; omega) (fun x hx => hw x (List.mem_of_mem_take hx)), judge_at h0, List.map_take]
  have jl := jj (by omega) hw a0
  rw [judge_at h0] at jl
  refine PE.step (fun k => by rw [knelllaw13_JudgeFront.j0, if_neg (by decide)]) ?_
  refine PE.bind (ofs_is l (by omega)) ?_
  have w1 : ¬ wrap64 ((l.length : Int) + 1) = 0 := by unfold wrap64; omega
  cases hg : goF (be0 a0) (l.map toE) with
  | none =>
    rw [hg] at jl
    have hm : a % (l.length + 1) ≤ l.length := by have := Nat.mod_lt a (show 0 < l.length + 1 by omega); omega
    refine PE.congr (f := fun k => (knelllaw11_Ofs.f k (l.take (a % (l.length + 1)))).bind fun t131 => ((judge_Judge.f t131 a0).bind fun bt134 => (if bt134.1 = (-1) then (some (bt134.2 == 0)) else (some false)))) (fun k => ?_) (PE.bind (tk _) (PE.congr (fun k => ?_) (PE.now true)))
    · rw [jl, Option.bind_some, if_pos (by rfl), if_neg w1, tm ha (by omega), if_pos (by omega), if_pos (by omega), Int.toNat_natCast]
    · rw [jt, goF_none hg]
      rfl
  | some p =>
    obtain ⟨i, c⟩ := p
    rw [hg] at jl
    obtain ⟨hi, hc, hlow, hat⟩ := goF_some hg
    rw [List.length_map] at hi
    refine PE.congr (f := fun k => knelllaw13_JudgeFront.j1 k a0 l (a : Int) (i : Int) c false) (fun k => ?_) ?_
    · rw [jl, Option.bind_some, if_neg (show ¬ (outF (some (i, c))).2 = 0 from hc), if_neg (show ¬ (outF (some (i, c))).1 < 0 by show ¬ (i : Int) < 0; omega)]
      show knelllaw13_JudgeFront.j1 k a0 l (a : Int) (i : Int) c (decide ((i : Int) ≥ (l.length : Int))) = _
      rw [decide_eq_false (by omega)]
    have w2 : wrap64 ((i : Int) + 1) = ((i + 1 : Nat) : Int) := w64 hi (by omega)
    refine PE.step (f := fun k => (knelllaw11_Ofs.f k (l.take (i + 1))).bind fun t140 => ((judge_Judge.f t140 a0).bind fun bt143 => (if bt143.1 = (i : Int) then (knelllaw13_JudgeFront.j2 k a0 l (a : Int) (i : Int) (bt143.2 != c)) else (knelllaw13_JudgeFront.j2 k a0 l (a : Int) (i : Int) true)))) (fun k => by rw [knelllaw13_JudgeFront.j1, if_neg (by decide), w2, if_pos (by omega), if_pos (by omega), Int.toNat_natCast]) ?_
    refine PE.bind (tk _) (PE.congr (f := fun k => knelllaw13_JudgeFront.j2 k a0 l (a : Int) (i : Int) false) (fun k => ?_) ?_)
    · rw [jt, hat, Option.bind_some]
      show (if (i : Int) = (i : Int) then knelllaw13_JudgeFront.j2 k a0 l (a : Int) (i : Int) (c != c) else _) = _
      rw [if_pos rfl, bne_self_eq_false]
    have hm : a % (i + 1) ≤ i := by have := Nat.mod_lt a (show 0 < i + 1 by omega); omega
    refine PE.step (f := fun k => (knelllaw11_Ofs.f k (l.take (a % (i + 1)))).bind fun t149 => ((judge_Judge.f t149 a0).bind fun bt152 => (if bt152.1 = (-1) then (some (bt152.2 == 0)) else (some false)))) (fun k => ?_) (PE.bind (tk _) (PE.congr (fun k => ?_) (PE.now true)))
    · rw [knelllaw13_JudgeFront.j2, if_neg (by decide), if_neg (by rw [w2]; omega), tm ha (by omega), if_pos (by omega), if_pos (by omega), Int.toNat_natCast]
    · rw [jt, hlow _ hm]
      rfl
end Go.Proofs.Ythniclbmpeklmaa.KJu
end
section
namespace Go.Proofs.Ythniclbmpeklmaa.KJu
open Go.RowKit Go.Proofs.YthniclbmpeklmaaW.PrintWords Go.Proofs.YthniclbmpeklmaaW.PrintLast Go.Proofs.YthniclbmpeklmaaW.PrintMore Go.Proofs.Ythniclbmpeklmaa.Ju
open Go.Proofs.Ythniclbmpeklmaa.Au (RowIs get_mem)
open Go.Proofs.YthniclbmpeklmaaW.PrintWords renaming Ev → PE
set_option linter.unusedVariables false
set_option linter.unusedSimpArgs false
abbrev sA (x : S50) : Array Value := #[.int .i64 x.f0, .int .i64 x.f1, .int .i64 x.f2, .int .i64 x.f3.f0, .int .i64 x.f3.f1, .int .i64 x.f4.f0, .int .i64 x.f4.f1, .int .i64 x.f5, .int .i64 x.f6, .int .i64 x.f7, .bool x.f8, .int .i64 x.f9]
theorem flat_of : ∀ (l : List S50) (cs : List Value), cs.length = l.length * 12 → (∀ j p, l[j]? = some p → (cs.drop (j * 12)).take 12 = (sA p).toList) → cs = l.flatMap fun x => (sA x).toList
  | [], cs, h, _ => by simpa using h
  | y :: l, cs, h, hj => by
    have h0 := hj 0 y rfl
    rw [Nat.zero_mul, List.drop_zero] at h0
    have h1 := flat_of l (cs.drop 12) (by rw [List.length_drop, h, List.length_cons]; omega) (fun j p hp => by
      have := hj (j + 1) p (by simpa using hp)
      rw [List.drop_drop, show 12 + j * 12 = (j + 1) * 12 by omega]
      exact this)
    rw [List.flatMap_cons, ← h0, ← h1, List.take_append_drop]
theorem row_of {w : World} {B : Nat} {ok : Nat → Prop} {v : Value} {l : List S50} (h : Kd.R k50 50 w B ok v l) : RowIs w B 50 12 sA v l := by
  obtain ⟨_, inner, ho, hr⟩ := h
  have e := flat_of l inner hr.1 (fun j p hp => (k50_openM (hr.2 j p hp)).trans rfl)
  unfold RowIs
  rw [← e]
  exact ho
theorem C_row {w : World} {B : Nat} {A : Option Addr} {c : Nat} {l : List S50} (h : RowIs w B 50 12 sA (.slice A l.length c) l) (hn : l.length ≤ 1000) : Kd.C k50 w A l.length l := by
  refine ⟨rfl, by omega, fun hp => ?_⟩
  obtain ⟨g, cap, hv, _, _, _⟩ := h.at_ (fun _ => rfl) (List.getElem?_eq_getElem hp)
  injection hv with hA _ _
  refine ⟨⟨g, 0, none⟩, hA, fun j p hj => ?_⟩
  obtain ⟨g', cap', hv', _, _, hcell⟩ := h.at_ (fun _ => rfl) hj
  injection hv' with hA' _ _
  rw [hA] at hA'
  obtain rfl : g = g' := by injection hA' with q; injection q
  refine ⟨(sA p).toList, rfl, k50_mk w p, fun i u hu => ?_⟩
  have hi : i < 12 := by
    have := (List.getElem?_eq_some_iff.1 hu).1
    simpa using this
  have hcc := hcell i hi
  have hsz : k50.sz = 12 := rfl
  have had : (⟨g, 0, none⟩ : Addr).add (j * 12 + i) = ⟨g, j * 12 + i, none⟩ := by simp [Addr.add]; omega
  rw [hsz, had, hcc, ← hu]
  simp
theorem R_empty (W : World) (B : Nat) (hB : B ≤ W.heap.size) : Kd.R k50 50 (W.alloc (.cells #[] 50)) B (fun _ => True) (.slice (some ⟨W.heap.size, 0, none⟩) 0 0) [] :=
  ⟨fun _ _ => trivial, [], ⟨rfl, .inr ⟨_, 0, #[], rfl, hB, blk_new W _, Nat.le_refl _, by unfold maxLen; omega, rfl, rfl⟩⟩, Reps.none _ _⟩
theorem KM_50 {w w1 : World} {B : Nat} {ok : Nat → Prop} {x : S50} {cs : List Value} (h : k50.K w x cs) : k50.M w1 B ok x cs := by
  rw [k50_open h]
  exact k50_mkM _ _ _ _
/-- Two workers' numbers changed for one another in a reference's event. -/
def sw50 (x y : Int) (s : S50) : S50 := if s.f0 = 1 then s else { s with f1 := sw x y s.f1 }
theorem sw50_E (x y : Int) (s : S50) : toE (sw50 x y s) = swE x y (toE s) := by
  unfold sw50 swE toE
  by_cases h : s.f0 = 1 <;> simp [h]
def tl (x y : Int) (l : List S50) (k : Nat) : List S50 := (l.take k).map (sw50 x y) ++ l.drop k
theorem tl_len (x y : Int) (l : List S50) (k : Nat) : (tl x y l k).length = l.length := by unfold tl; simp; omega
theorem tl_get (x y : Int) {l : List S50} {k : Nat} {e : S50} (h : l[k]? = some e) : (tl x y l k)[k]? = some e := by
  have hk := (List.getElem?_eq_some_iff.1 h).1
  unfold tl
  rw [List.getElem?_append_right (by simp; omega)]
  simp
  rw [Nat.min_eq_left (by omega), Nat.sub_self, Nat.add_zero]
  exact h
theorem tl_succ (x y : Int) {l : List S50} {k : Nat} {e : S50} (h : l[k]? = some e) : tl x y l (k + 1) = (tl x y l k).set k (sw50 x y e) := by
  obtain ⟨hk, rfl⟩ := List.getElem?_eq_some_iff.1 h
  unfold tl
  rw [List.take_succ_eq_append_getElem hk, List.map_append, List.map_singleton, List.set_append, if_neg (by simp; omega)]
  simp only [List.length_map, List.length_take, Nat.min_eq_left (Nat.le_of_lt hk), Nat.sub_self]
  rw [List.drop_eq_getElem_cons hk, List.set_cons_zero, List.append_assoc]
  rfl
theorem tl_same (x y : Int) {l : List S50} {k : Nat} {e : S50} (h : l[k]? = some e) (hs : sw50 x y e = e) : tl x y l (k + 1) = tl x y l k := by
  rw [tl_succ x y h, hs]
  obtain ⟨h1, h2⟩ := List.getElem?_eq_some_iff.1 (tl_get x y h)
  rw [← h2]
  exact List.set_getElem_self h1
theorem swE_nn {x y : Int} {l : List S50} (hx : (Lit.int .i64 x).wf = true) (hy : (Lit.int .i64 y).wf = true) (hw : ∀ s ∈ l, wfB' (toE s) = true) : ∀ s ∈ l.map (sw50 x y), wfB' (toE s) = true := by
  intro s hs
  obtain ⟨t, ht, rfl⟩ := List.mem_map.1 hs
  have h := hw t ht
  rw [sw50_E]
  unfold swE
  split
  · exact h
  · unfold wfB' at h ⊢
    simp only [Bool.and_eq_true] at h ⊢
    refine ⟨⟨⟨⟨?_, h.1.1.1.2⟩, h.1.1.2⟩, h.1.2⟩, h.2⟩
    unfold sw
    split
    · exact hy
    · split
      · exact hx
      · exact h.1.1.1.1
/-- What the loop keeps. -/
structure Nj (w W : World) (v : Value) (x y : Int) (l : List S50) (k : Nat) : Prop where
  row : RowIs W w.heap.size 50 12 sA v (tl x y l k)
  bel : Below w.heap.size w W
theorem ofs_run {A0 : Option Addr} {c0 : Nat} {l : List S50} {r : List S54} (k : Nat) {W : World} (h : knelllaw11_Ofs.f k l = some r) (hr : Kd.C k50 W A0 l.length l) (hc : l.length ≤ c0) :
    Calls Try.prog 16 #[.slice A0 l.length c0] W fun e w' => ∃ Ao co, e = .returned (.slice Ao r.length co) ∧ Kd.C k54 w' Ao r.length r ∧ r.length ≤ co ∧ Below W.heap.size W w' :=
  (knelllaw11_Ofs.calls k A0 c0 l r W hr hc h).mono fun e w' ⟨v, he, ho, hb⟩ => by
    obtain ⟨Ao, co, rfl⟩ := Kd.R_slice ho
    obtain ⟨hlen, hC⟩ := Kd.R_reads' ho
    exact ⟨Ao, co, he, hC.2, hC.1, hb⟩
set_option maxHeartbeats 8000000 in
set_option maxRecDepth 100000 in
theorem names_walk (a0 : Int) (h0 : ¬ (a0 < 1 ∨ 64 < a0)) (A1 : Option Addr) (c1 : Nat) (l : List S50) (hn : l.length ≤ 60) (a b : Int) (ha : 0 ≤ a ∧ a ≤ 255) (hb : 0 ≤ b ∧ b ≤ 255) (w : World) (hr : Kd.C k50 w A1 l.length l) (hc : l.length ≤ c1) (hw : ∀ x ∈ l, wfB' (toE x) = true) :
    Calls Try.prog 9 #[.int .i64 a0, .slice A1 l.length c1, .int .u8 a, .int .u8 b] w fun r w' => r = .returned (.bool true) ∧ Below w.heap.size w w' := by
  have hu50 := Try.underlying50
  have CS := Aside0.mk (fun W => speaks_any W)
  have g0 : decide ((l.length : Int) > 60) = false := decide_eq_false (by omega)
  have g1 : decide (a0 < 1) = false := decide_eq_false (by omega)
  have g2 : decide (a0 > 64) = false := decide_eq_false (by omega)
  have g3 : (a0 == 0) = false := beq_eq_false_iff_ne.2 (by omega)
  have g4 : ¬ a0 = 0 := by omega
  obtain ⟨x, hx⟩ : ∃ x, a % a0 = x := ⟨_, rfl⟩
  obtain ⟨y, hy⟩ : ∃ y, b % a0 = y := ⟨_, rfl⟩
  have HXY := Aside0.mk (show (0 ≤ x ∧ x < a0) ∧ (0 ≤ y ∧ y < a0) from ⟨by rw [← hx]; exact ⟨Int.emod_nonneg _ g4, Int.emod_lt_of_pos _ (by omega)⟩, by rw [← hy]; exact ⟨Int.emod_nonneg _ g4, Int.emod_lt_of_pos _ (by omega)⟩⟩)
  have H0 := Aside0.mk h0
  have HN := Aside0.mk hn
  have HR := Aside0.mk hr
  have HC := Aside0.mk hc
  have HWW := Aside0.mk hw
  clear h0 hn hr hc hw
  go_enter Try.func9, Try.ntmps9
  go_upto_region 3 with (first | (go_at_call 25; (with_reducible refine (CS.out _).mono ?_); rintro r w2 ⟨rfl, hb2⟩; have HB := Aside0.mk hb2; clear hb2))
  go_quiet (fail)
  clear g0 g1 g2 g3 ha hb
  go_wp2_with (first | (at_builtin; refine Kd.R_append_rows k50 (Rr := k50.K ?ww) (w0 := w) w.heap.size rfl _ _ 22 50 (.agg #[.int .i64 0, .int .i64 0, .int .i64 0, .int .i64 0, .int .i64 0, .int .i64 0, .int .i64 0, .int .i64 0, .int .i64 0, .int .i64 0, .bool false, .int .i64 0]) 96 rfl Try.underlying22 info50 rfl (by decide) (by omega) (.slice (some ⟨w2.heap.size, 0, none⟩) 0 0) [] l A1 l.length c1 (fun _ => True) (fun _ => False) rfl rfl ?aO ?aR (fun x cs h => KM_50 h) (fun _ h => h.elim) (fun _ _ => trivial) ?aB ?aS ?aL ?_; (case aO => exact R_empty _ _ HB.out.size); (case aR => show Kd.C k50 _ A1 l.length l; exact Kd.C_below HR.out (by repeat (first | exact HB.out | apply below_alloc | apply pw_below_drewN))); (case aB => exact (by repeat (first | exact HB.out | apply below_alloc | apply pw_below_drewN))); (case aS => have := HB.out.size; simp; omega); (case aL => have := HN.out; simp; omega); intro v1 w4 ho hb4 hg4 hat; rw [List.nil_append] at ho; obtain ⟨Ao, co, rfl⟩ := Kd.R_slice ho; have HO := Aside0.mk (row_of ho); have HB4 := Aside0.mk hb4; clear ho hb4 hg4 hat))
  clear g4
  have HJ0 := Aside0.mk (show Nj w w4 (.slice Ao l.length co) x y l 0 from ⟨HO.out, HB4.out⟩)
  clear HO HB HB4
  go_loopw [47] (fun i wr => ∃ k : Nat, k ≤ l.length ∧ i = .int .i64 k ∧ Aside0 (Nj w wr (.slice Ao l.length co) x y l k)) (fun i _ => l.length - (intOf i).toNat)
  case atStart => exact ⟨0, by omega, rfl, HJ0⟩
  case round =>
    clear HJ0
    obtain ⟨k, hk, rfl, HI⟩ := hrel
    rcases Nat.lt_or_ge k l.length with hlt | hge
    · have p0 : (0 : Int) ≤ (k : Int) := by omega
      have q0 : (k : Int) < (l.length : Int) := by omega
      obtain ⟨e, he⟩ : ∃ e, l[k]? = some e := ⟨_, List.getElem?_eq_getElem hlt⟩
      have HE := Aside0.mk he
      obtain ⟨g, cp, hv, hcp, hgl, hcell⟩ := HI.out.row.at_ (fun _ => rfl) (tl_get x y he)
      rw [tl_len] at hv
      injection hv with hv1 hv2 hv3
      subst hv1
      subst hv3
      have hnn : wrap64 ((k : Int) + 1) = ((k + 1 : Nat) : Int) := by have := HN.out; unfold wrap64; omega
      obtain ⟨cur, hcur⟩ := HI.out.row.own (show (Value.slice (some ⟨g, 0, none⟩) l.length co).ownBlock = some g from rfl)
      have hfz := fun i => blk_frozen hcur i
      have HG := Aside0.mk (show w.heap.size ≤ g by rcases HI.out.row.2 with ⟨q, _⟩ | ⟨g', _, _, q, hq, _⟩; (cases q); (injection q with q _ _; injection q with q; injection q with q; omega))
      have HR2 := Aside0.mk (show RowIs wr w.heap.size 50 12 sA (.slice (some ⟨g, 0, none⟩) (tl x y l k).length co) (tl x y l k) by rw [tl_len]; exact HI.out.row)
      have d0 := hcell 0 (by decide)
      have d1 := hcell 1 (by decide)
      have d2 := hcell 2 (by decide)
      have d3 := hcell 3 (by decide)
      have d4 := hcell 4 (by decide)
      have d5 := hcell 5 (by decide)
      have d6 := hcell 6 (by decide)
      have d7 := hcell 7 (by decide)
      have d8 := hcell 8 (by decide)
      have d9 := hcell 9 (by decide)
      have d10 := hcell 10 (by decide)
      have d11 := hcell 11 (by decide)
      rw [Nat.add_zero] at d0
      replace q0 := eq_true q0
      replace p0 := eq_true p0
      clear hcell he hv2 hcur hcp
      by_cases t0 : e.f0 = 1
      · have HS := Aside0.mk (show sw50 x y e = e by unfold sw50 sw; rw [if_pos t0])
        have b0 : (e.f0 == 1) = true := beq_iff_eq.2 t0
        clear t0
        go_wp2
        go_roundw
        case rel => exact ⟨k + 1, by omega, by first | rw [hnn] | simp, ⟨⟨by rw [tl_same x y HE.out HS.out]; exact HI.out.row.below (below_alloc (Below.refl _ _) _), below_alloc HI.out.bel _⟩⟩⟩
        case measure => first | (rw [hnn]; simp [intOf]; omega) | (simp [intOf]; omega)
      · by_cases t1 : e.f1 = x
        · have HS := Aside0.mk (show sw50 x y e = { e with f1 := y } by unfold sw50 sw; rw [if_neg t0, if_pos t1])
          have b0 : (e.f0 == 1) = false := beq_eq_false_iff_ne.2 t0
          have b1 : (e.f1 == x) = true := beq_iff_eq.2 t1
          clear t0 t1
          go_wp2
          go_roundw
          case rel => exact ⟨k + 1, by omega, by first | rw [hnn] | simp, ⟨⟨by rw [tl_succ x y HE.out, HS.out]; have := (HR2.out).put (fun _ => rfl) (i := k) (j := 1) (x' := { e with f1 := y }) (u := .int .i64 y) (tl_get x y HE.out) (by decide) rfl; rw [List.length_set, tl_len] at this; exact this.below (below_alloc (Below.refl _ _) _), below_alloc (HI.out.bel.setCell HG.out _) _⟩⟩⟩
          case measure => first | (rw [hnn]; simp [intOf]; omega) | (simp [intOf]; omega)
        · by_cases t2 : e.f1 = y
          · have HS := Aside0.mk (show sw50 x y e = { e with f1 := x } by unfold sw50 sw; rw [if_neg t0, if_neg t1, if_pos t2])
            have b0 : (e.f0 == 1) = false := beq_eq_false_iff_ne.2 t0
            have b1 : (e.f1 == x) = false := beq_eq_false_iff_ne.2 t1
            have b2 : (e.f1 == y) = true := beq_iff_eq.2 t2
            clear t0 t1 t2
            go_wp2
            go_roundw
            case rel => exact ⟨k + 1, by omega, by first | rw [hnn] | simp, ⟨⟨by rw [tl_succ x y HE.out, HS.out]; have := (HR2.out).put (fun _ => rfl) (i := k) (j := 1) (x' := { e with f1 := x }) (u := .int .i64 x) (tl_get x y HE.out) (by decide) rfl; rw [List.length_set, tl_len] at this; exact this.below (below_alloc (Below.refl _ _) _), below_alloc (HI.out.bel.setCell HG.out _) _⟩⟩⟩
            case measure => first | (rw [hnn]; simp [intOf]; omega) | (simp [intOf]; omega)
          · have HS := Aside0.mk (show sw50 x y e = e by unfold sw50 sw; rw [if_neg t0, if_neg t1, if_neg t2])
            have b0 : (e.f0 == 1) = false := beq_eq_false_iff_ne.2 t0
            have b1 : (e.f1 == x) = false := beq_eq_false_iff_ne.2 t1
            have b2 : (e.f1 == y) = false := beq_eq_false_iff_ne.2 t2
            clear t0 t1 t2
            go_wp2
            go_roundw
            case rel => exact ⟨k + 1, by omega, by first | rw [hnn] | simp, ⟨⟨by rw [tl_same x y HE.out HS.out]; exact HI.out.row.below (below_alloc (Below.refl _ _) _), below_alloc HI.out.bel _⟩⟩⟩
            case measure => first | (rw [hnn]; simp [intOf]; omega) | (simp [intOf]; omega)
    · have q0 : ((k : Int) < (l.length : Int)) = False := eq_false (by omega)
      have HK := Aside0.mk (show tl x y l k = l.map (sw50 x y) by unfold tl; rw [List.take_of_length_le (by omega), List.drop_eq_nil_of_le (by omega), List.append_nil])
      obtain ⟨K1, hK1⟩ := ofs_is l (by have := HN.out; omega)
      obtain ⟨K2, hK2⟩ := ofs_is (l.map (sw50 x y)) (by have := HN.out; rw [List.length_map]; omega)
      have HL : Aside0 ((l.map (sw50 x y)).length = l.length) := ⟨List.length_map _⟩
      have HRT := Aside0.mk (show Kd.C k50 wr Ao (l.map (sw50 x y)).length (l.map (sw50 x y)) from C_row (by have q := HI.out.row; rw [HK.out] at q; rw [HL.out]; exact q) (by have := HN.out; rw [HL.out]; omega))
      have HCO := Aside0.mk (show l.length ≤ co by rcases HI.out.row.2 with ⟨q, q2⟩ | ⟨g', cap, _, q, _, _, hcap, _⟩; (rw [tl_len] at q2; omega); (rw [tl_len] at q hcap; injection q with _ _ q; omega))
      have HJB : Aside0 (Below w.heap.size w wr) := ⟨HI.out.bel⟩
      have C1 : Aside0 (∀ W, Below w.heap.size w W → Calls Try.prog 16 #[.slice A1 l.length c1] W fun r w' => ∃ Ao co, r = .returned (.slice Ao (l.map ofS).length co) ∧ Kd.C k54 w' Ao (l.map ofS).length (l.map ofS) ∧ (l.map ofS).length ≤ co ∧ Below W.heap.size W w') := ⟨fun W hW => ofs_run K1 (hK1 K1 (Nat.le_refl _)) (Kd.C_below HR.out hW) HC.out⟩
      have C2 : Aside0 (∀ W, Below wr.heap.size wr W → Calls Try.prog 16 #[.slice Ao l.length co] W fun r w' => ∃ Ao2 co2, r = .returned (.slice Ao2 ((l.map (sw50 x y)).map ofS).length co2) ∧ Kd.C k54 w' Ao2 ((l.map (sw50 x y)).map ofS).length ((l.map (sw50 x y)).map ofS) ∧ ((l.map (sw50 x y)).map ofS).length ≤ co2 ∧ Below W.heap.size W w') := ⟨fun W hW => by have q := ofs_run (c0 := co) K2 (hK2 K2 (Nat.le_refl _)) (Kd.C_below HRT.out hW) (by rw [HL.out]; exact HCO.out); rw [HL.out] at q; exact q⟩
      obtain ⟨r1, hr1⟩ : ∃ r, judgeF (l.map toE) a0 = r := ⟨_, rfl⟩
      have HS : Aside0 (judgeF ((l.map (sw50 x y)).map toE) a0 = r1) := ⟨by rw [← hr1, List.map_map, show toE ∘ sw50 x y = swE x y ∘ toE from funext fun s => sw50_E x y s, ← List.map_map]; exact judge_sw HXY.out.1.1 HXY.out.2.1 HXY.out.1.2 HXY.out.2.2 _⟩
      have HWF2 := Aside0.mk (swE_nn (x := x) (y := y) (l := l) (by have := HXY.out; have := H0.out; simp [Lit.wf, show IntKind.i64.min = -9223372036854775808 from rfl, show IntKind.i64.max = 9223372036854775807 from rfl]; omega) (by have := HXY.out; have := H0.out; simp [Lit.wf, show IntKind.i64.min = -9223372036854775808 from rfl, show IntKind.i64.max = 9223372036854775807 from rfl]; omega) HWW.out)
      have J1 : Aside0 (∀ W A c, Kd.C k54 W A (l.map ofS).length (l.map ofS) → (l.map ofS).length ≤ c → Calls Try.prog 37 #[.slice A (l.map ofS).length c, .int .i64 a0] W fun r w' => r = .returned (.tuple #[.int .i64 r1.1, .int .i64 r1.2]) ∧ Below W.heap.size W w') := ⟨fun W A c hW hcc => judge_Judge.calls A c (l.map ofS) a0 _ _ W hW hcc (by rw [jj (by have := HN.out; omega) HWW.out, hr1])⟩
      have J2 : Aside0 (∀ W A c, Kd.C k54 W A ((l.map (sw50 x y)).map ofS).length ((l.map (sw50 x y)).map ofS) → ((l.map (sw50 x y)).map ofS).length ≤ c → Calls Try.prog 37 #[.slice A ((l.map (sw50 x y)).map ofS).length c, .int .i64 a0] W fun r w' => r = .returned (.tuple #[.int .i64 r1.1, .int .i64 r1.2]) ∧ Below W.heap.size W w') := ⟨fun W A c hW hcc => judge_Judge.calls A c _ a0 _ _ W hW hcc (by rw [jj (by have := HN.out; rw [HL.out]; omega) HWF2.out, HS.out])⟩
      clear hK1 hK2 hr1 hk hge
      obtain ⟨t1, ht1⟩ : ∃ t, l.map ofS = t := ⟨_, rfl⟩
      obtain ⟨t2, ht2⟩ : ∃ t, (l.map (sw50 x y)).map ofS = t := ⟨_, rfl⟩
      rw [ht1] at C1 J1
      rw [ht2] at C2 J2
      clear ht1 ht2
      go_wp2_with (first | (go_at_call 16; (with_reducible refine (C1.out _ HJB.out).mono ?_); rintro r w5 ⟨A5, c5, rfl, h5, h6, hb5⟩; have HQ1 := Aside0.mk (And.intro h5 h6); have HB5 := Aside0.mk hb5; clear C1 h5 h6 hb5) | (go_at_call 37; (with_reducible refine (J1.out _ _ _ HQ1.out.1 HQ1.out.2).mono ?_); rintro r w6 ⟨rfl, hb6⟩; have HB6 := Aside0.mk (below_step HB5.out hb6); clear J1 hb6) | (go_at_call 16; (with_reducible refine (C2.out _ HB6.out).mono ?_); rintro r w7 ⟨A7, c7, rfl, h7, h8, hb7⟩; have HQ2 := Aside0.mk (And.intro h7 h8); have HB7 := Aside0.mk (below_step HB6.out hb7); clear C2 h7 h8 hb7) | (go_at_call 37; (with_reducible refine (J2.out _ _ _ HQ2.out.1 HQ2.out.2).mono ?_); rintro r w8 ⟨rfl, hb8⟩; have HB8 := Aside0.mk (below_step HB7.out hb8); clear J2 hb8))
      go_ret
      exact ⟨by simp, below_step HJB.out HB8.out⟩
end Go.Proofs.Ythniclbmpeklmaa.KJu
end
section
namespace Go.Proofs.Ythniclbmpeklmaa.KJu
open Go.RowKit Go.Proofs.YthniclbmpeklmaaW.PrintWords Go.Proofs.YthniclbmpeklmaaW.PrintLast Go.Proofs.YthniclbmpeklmaaW.PrintMore Go.Proofs.Ythniclbmpeklmaa.Ju
set_option linter.unusedVariables false
set_option linter.unusedSimpArgs false
set_option maxHeartbeats 4000000 in
set_option maxRecDepth 100000 in
theorem names_long (a0 : Int) (A1 : Option Addr) (c1 : Nat) (l : List S50) (a b : Int) (h : (l.length : Int) > 60) (w : World) :
    Calls Try.prog 9 #[.int .i64 a0, .slice A1 l.length c1, .int .u8 a, .int .u8 b] w fun r w' => r = .returned (.bool true) ∧ Below w.heap.size w w' := by
  have CS := Aside0.mk (fun W => speaks_any W)
  have g0 : decide ((l.length : Int) > 60) = true := decide_eq_true h
  clear h
  have HB := Aside0.mk (Below.refl w.heap.size w)
  go_enter Try.func9, Try.ntmps9
  go_wp2_with (go_at_call 25; (with_reducible refine (CS.out _).mono ?_); rintro r w2 ⟨rfl, hb2⟩; have HB2 := Aside0.mk (below_step HB.out hb2); clear HB hb2; have HB := HB2; clear HB2)
  go_ret
  exact ⟨rfl, HB.out⟩
set_option maxHeartbeats 4000000 in
set_option maxRecDepth 100000 in
theorem names_low (a0 : Int) (A1 : Option Addr) (c1 : Nat) (l : List S50) (a b : Int) (hn : ¬ (l.length : Int) > 60) (h : a0 < 1) (w : World) :
    Calls Try.prog 9 #[.int .i64 a0, .slice A1 l.length c1, .int .u8 a, .int .u8 b] w fun r w' => r = .returned (.bool true) ∧ Below w.heap.size w w' := by
  have CS := Aside0.mk (fun W => speaks_any W)
  have g0 : decide ((l.length : Int) > 60) = false := decide_eq_false hn
  have g1 : decide (a0 < 1) = true := decide_eq_true h
  clear hn
  clear h
  have HB := Aside0.mk (Below.refl w.heap.size w)
  go_enter Try.func9, Try.ntmps9
  go_wp2_with (go_at_call 25; (with_reducible refine (CS.out _).mono ?_); rintro r w2 ⟨rfl, hb2⟩; have HB2 := Aside0.mk (below_step HB.out hb2); clear HB hb2; have HB := HB2; clear HB2)
  go_ret
  exact ⟨rfl, HB.out⟩
set_option maxHeartbeats 4000000 in
set_option maxRecDepth 100000 in
theorem names_high (a0 : Int) (A1 : Option Addr) (c1 : Nat) (l : List S50) (a b : Int) (hn : ¬ (l.length : Int) > 60) (h1 : ¬ a0 < 1) (h : a0 > 64) (w : World) :
    Calls Try.prog 9 #[.int .i64 a0, .slice A1 l.length c1, .int .u8 a, .int .u8 b] w fun r w' => r = .returned (.bool true) ∧ Below w.heap.size w w' := by
  have CS := Aside0.mk (fun W => speaks_any W)
  have g0 : decide ((l.length : Int) > 60) = false := decide_eq_false hn
  have g1 : decide (a0 < 1) = false := decide_eq_false h1
  have g2 : decide (a0 > 64) = true := decide_eq_true h
  clear hn h1
  clear h
  have HB := Aside0.mk (Below.refl w.heap.size w)
  go_enter Try.func9, Try.ntmps9
  go_wp2_with (go_at_call 25; (with_reducible refine (CS.out _).mono ?_); rintro r w2 ⟨rfl, hb2⟩; have HB2 := Aside0.mk (below_step HB.out hb2); clear HB hb2; have HB := HB2; clear HB2)
  go_ret
  exact ⟨rfl, HB.out⟩
/-- What the law answers; said only where numbers fit. -/
def knelllaw13_JudgeNames.f (a0 : Int) (l1 : List S50) (a2 a3 : Int) : Option Bool := if (∀ x ∈ l1, wfB' (toE x) = true) ∧ (0 ≤ a2 ∧ a2 ≤ 255) ∧ (0 ≤ a3 ∧ a3 ≤ 255) then some true else none
theorem knelllaw13_JudgeNames.calls (a0 : Int) (A1 : Option Addr) (c1 : Nat) (l1 : List S50) (a2 a3 : Int) (r : Bool) (w : World) (hr1 : Kd.C k50 w A1 l1.length l1) (hc1 : l1.length ≤ c1) (h : knelllaw13_JudgeNames.f a0 l1 a2 a3 = some r) :
    Calls Try.prog 9 #[.int .i64 a0, .slice A1 l1.length c1, .int .u8 a2, .int .u8 a3] w fun e w' => e = .returned (.bool r) ∧ Below w.heap.size w w' := by
  unfold knelllaw13_JudgeNames.f at h
  split at h
  · rename_i hw
    obtain rfl := Option.some.inj h
    by_cases hn : (l1.length : Int) > 60
    · exact names_long a0 A1 c1 l1 a2 a3 hn w
    by_cases h1 : a0 < 1
    · exact names_low a0 A1 c1 l1 a2 a3 hn h1 w
    by_cases h6 : a0 > 64
    · exact names_high a0 A1 c1 l1 a2 a3 hn h1 h6 w
    exact names_walk a0 (by omega) A1 c1 l1 (by omega) a2 a3 hw.2.1 hw.2.2 w hr1 hc1 hw.1
  · cases h
theorem u8_in {a : Int} (h : (Lit.int .u8 a).wf = true) : 0 ≤ a ∧ a ≤ 255 := by
  have e1 : IntKind.u8.min = 0 := rfl
  have e2 : IntKind.u8.max = 255 := rfl
  simpa [Lit.wf, e1, e2] using h
theorem JudgeNames (a0 : Int) (l1 : List S50) (a2 a3 : Int) (hw : ∀ x ∈ l1, wfB' (toE x) = true) (h2 : (Lit.int .u8 a2).wf = true) (h3 : (Lit.int .u8 a3).wf = true) : knelllaw13_JudgeNames.f a0 l1 a2 a3 = some true := if_pos ⟨hw, u8_in h2, u8_in h3⟩
end Go.Proofs.Ythniclbmpeklmaa.KJu
end
section
namespace Go.Proofs.Ythniclbmpeklmaa.Krow
open Go.ChangeShapes Go.WideShapes Go.Deep Go.Proofs.YthniclbmpeklmaaW.PrintWords
/-- One cell of plain data. -/
inductive Leaf where
  | int (k : IntKind)
  | bool
def Leaf.ok : Leaf → Value → Prop
  | .int k, v => ∃ n, v = .int k n ∧ (Lit.int k n).wf = true
  | .bool, v => ∃ b, v = .bool b
def Leaves : List Leaf → List Value → Prop
  | [], [] => True
  | l :: ls, v :: vs => l.ok v ∧ Leaves ls vs
  | _, _ => False
theorem Leaves.length : ∀ {ls : List Leaf} {vs : List Value}, Leaves ls vs → vs.length = ls.length
  | [], [], _ => rfl
  | _ :: _, _ :: _, h => by simp [Leaves.length h.2]
theorem Leaves.append : ∀ {a b : List Leaf} {vs ws : List Value}, Leaves a vs → Leaves b ws → Leaves (a ++ b) (vs ++ ws)
  | [], _, [], _, _, h => h
  | _ :: _, _, _ :: _, _, h, h' => ⟨h.1, Leaves.append h.2 h'⟩
theorem Leaves.int {k : IntKind} {ls : List Leaf} {vs : List Value} (h : Leaves (.int k :: ls) vs) : ∃ n r, vs = .int k n :: r ∧ (Lit.int k n).wf = true ∧ Leaves ls r := by
  match vs, h with
  | _ :: r, ⟨⟨n, rfl, hw⟩, h⟩ => exact ⟨n, r, rfl, hw, h⟩
theorem Leaves.boole {ls : List Leaf} {vs : List Value} (h : Leaves (.bool :: ls) vs) : ∃ b r, vs = .bool b :: r ∧ Leaves ls r := by
  match vs, h with
  | _ :: r, ⟨⟨b, rfl⟩, h⟩ => exact ⟨b, r, rfl, h⟩
theorem Leaves.nil {vs : List Value} (h : Leaves [] vs) : vs = [] := by
  match vs, h with
  | [], _ => rfl
theorem collect {α : Type} {p : Nat → α → Prop} {len : Nat} (key : ∀ i, i < len → ∃ x : α, p i x) : ∃ l : List α, l.length = len ∧ ∀ i x, l[i]? = some x → p i x := by
  induction len with
  | zero => exact ⟨[], rfl, fun i x h => by simp at h⟩
  | succ len ih =>
    obtain ⟨l, hl, hx⟩ := ih (fun i hi => key i (by omega))
    obtain ⟨x, hp⟩ := key len (by omega)
    refine ⟨l ++ [x], by simp [hl], fun i y hy => ?_⟩
    by_cases hi : i < len
    · rw [List.getElem?_append_left (by omega)] at hy
      exact hx i y hy
    · rw [List.getElem?_append_right (by omega)] at hy
      have : i - l.length = 0 := by
        have := (List.getElem?_eq_some_iff.1 hy).1
        simp at this
        omega
      rw [this] at hy
      obtain rfl : x = y := by simpa using hy
      obtain rfl : i = len := by omega
      exact hp
/-- The cells of a struct's fields, one behind the other. -/
def fieldsOf (f : TypeId → Option (List Leaf)) (P : Program) : List Field → Nat → Option (List Leaf)
  | [], _ => some []
  | x :: r, off => (f x.type).bind fun ls => if x.offset = off ∧ P.cellsOf x.type = ls.length then (fieldsOf f P r (off + ls.length)).map (ls ++ ·) else none
/-- A type of plain data: its cells. -/
def plainOf (P : Program) : Nat → TypeId → Option (List Leaf)
  | 0, _ => none
  | n + 1, t => match P.underlying t with
    | some (.int k) => some [.int k]
    | some .bool => some [.bool]
    | some (.struct fs) => (fieldsOf (plainOf P n) P fs.toList 0).bind fun ls => if P.cellsOf t = ls.length then some ls else none
    | some (.array m e) => (plainOf P n e).bind fun ls => if P.cellsOf e = ls.length ∧ P.cellsOf t = m * ls.length then some ((List.replicate m ls).flatten) else none
    | _ => none
section
variable {H : Type} {enc : TypeId × Value → H} {P : Program} {w : World} {base : Nat} {spare : Nat → Bool} {held : Bool}
theorem fields_leaves {n : Nat} (ih : ∀ (t : TypeId) (ls : List Leaf) (fuel : Nat) (cs : List Value) (x : DataW H × List MemPlace), plainOf P n t = some ls → DataW.trod enc P w base spare held fuel t cs = some x → Leaves ls cs) (cs : List Value) (m : Nat) :
    ∀ (fs : List Field) (off : Nat) (ls : List Leaf), (∀ (i : Nat) (f : Field), fs[i]? = some f → ∃ x, DataW.trod enc P w base spare held m f.type ((cs.drop f.offset).take (P.cellsOf f.type)) = some x) →
      fieldsOf (plainOf P n) P fs off = some ls → Leaves ls ((cs.drop off).take ls.length) := by
  intro fs
  induction fs with
  | nil =>
    intro off ls _ h
    simp only [fieldsOf, Option.some.injEq] at h
    subst h
    simp [Leaves]
  | cons f r ihr =>
    intro off ls hx h
    simp only [fieldsOf] at h
    obtain ⟨l1, h1, h⟩ := Option.bind_eq_some_iff.1 h
    by_cases hc : f.offset = off ∧ P.cellsOf f.type = l1.length
    · rw [if_pos hc] at h
      obtain ⟨l2, h2, rfl⟩ := Option.map_eq_some_iff.1 h
      obtain ⟨x, hx0⟩ := hx 0 f rfl
      rw [hc.1, hc.2] at hx0
      have a1 := ih f.type l1 m _ x h1 hx0
      have a2 := ihr (off + l1.length) l2 (fun i g hg => hx (i + 1) g hg) h2
      have e : (cs.drop off).take (l1 ++ l2).length = (cs.drop off).take l1.length ++ (cs.drop (off + l1.length)).take l2.length := by
        rw [List.length_append, List.take_add, List.drop_drop]
      rw [e]
      exact a1.append a2
    · rw [if_neg hc] at h
      cases h
theorem blocks_leaves (ls : List Leaf) (cs : List Value) : ∀ (m off : Nat), (∀ i, i < m → Leaves ls ((cs.drop ((off + i) * ls.length)).take ls.length)) → Leaves ((List.replicate m ls).flatten) ((cs.drop (off * ls.length)).take (m * ls.length)) := by
  intro m
  induction m with
  | zero => intro off _; simp [Leaves]
  | succ m ih =>
    intro off h
    have a1 := h 0 (by omega)
    have a2 := ih (off + 1) (fun i hi => by have := h (i + 1) (by omega); rw [show off + 1 + i = off + (i + 1) by omega]; exact this)
    rw [Nat.add_zero] at a1
    rw [List.replicate_succ, List.flatten_cons, show (m + 1) * ls.length = ls.length + m * ls.length by rw [Nat.add_mul]; omega, List.take_add, List.drop_drop, show off * ls.length + ls.length = (off + 1) * ls.length by rw [Nat.add_mul]; omega]
    exact a1.append a2
/-- WHAT READS AS PLAIN DATA, CELL BY CELL. -/
theorem plain_trod : ∀ (n : Nat) (t : TypeId) (ls : List Leaf) (fuel : Nat) (cs : List Value) (x : DataW H × List MemPlace), plainOf P n t = some ls → DataW.trod enc P w base spare held fuel t cs = some x → Leaves ls cs := by
  intro n
  induction n with
  | zero => intro t ls fuel cs x h; cases h
  | succ n ih =>
    intro t ls fuel cs x h hx
    unfold plainOf at h
    split at h
    · rename_i k hu
      obtain rfl := Option.some.inj h
      obtain ⟨a, rfl, _, hw⟩ := DataW.trod_int hu hx
      exact ⟨⟨a, rfl, hw⟩, trivial⟩
    · rename_i hu
      obtain rfl := Option.some.inj h
      obtain ⟨b, rfl, _⟩ := DataW.trod_bool hu hx
      exact ⟨⟨b, rfl⟩, trivial⟩
    · rename_i fs hu
      obtain ⟨l, h1, h⟩ := Option.bind_eq_some_iff.1 h
      by_cases hc : P.cellsOf t = l.length
      · rw [if_pos hc] at h
        obtain rfl := Option.some.inj h
        obtain ⟨xs, m, _, _, hl, hlen, hf⟩ := DataW.trod_struct hu hx
        have := fields_leaves ih cs m fs.toList 0 l (fun i f hi => by
          have hi' : fs[i]? = some f := by simpa using hi
          rw [hf i f hi']
          have : i < xs.length := by rw [hlen]; exact (Array.getElem?_eq_some_iff.1 hi').1
          exact ⟨_, List.getElem?_eq_getElem this⟩) h1
        rw [List.drop_zero, List.take_of_length_le (by omega)] at this
        exact this
      · rw [if_neg hc] at h
        cases h
    · rename_i m e hu
      obtain ⟨l, h1, h⟩ := Option.bind_eq_some_iff.1 h
      by_cases hc : P.cellsOf e = l.length ∧ P.cellsOf t = m * l.length
      · rw [if_pos hc] at h
        obtain rfl := Option.some.inj h
        obtain ⟨xs, q, _, _, hl, hlen, hf⟩ := DataW.trod_array hu hx
        have := blocks_leaves l cs m 0 (fun i hi => by
          have h2 := hf i hi
          rw [List.getElem?_eq_getElem (by omega), hc.1] at h2
          rw [Nat.zero_add]
          exact ih e l q _ _ h1 h2)
        rw [Nat.zero_mul, List.drop_zero, List.take_of_length_le (by omega)] at this
        exact this
      · rw [if_neg hc] at h
        cases h
    · cases h
/-- An argument that is a slice of plain data: its elements, as the print's words have them. -/
theorem open_rows {α : Type} (D : Kd α) (good : α → Prop) {r : Reach} {b0 : Nat} {t e : TypeId} {v : Value} {d : DataW H} {ps : List MemPlace} {n : Nat} {ls : List Leaf} (hu : P.underlying t = some (.slice e)) (hp : plainOf P n e = some ls) (hc : P.cellsOf e = ls.length) (hsz : D.sz = ls.length)
    (mk : ∀ cs : List Value, Leaves ls cs → ∃ x : α, D.K w x cs ∧ good x)
    (hv : Value.okWide P w r b0 t v) (h : DataW.Trod enc P w base spare held t v d ps) :
    ∃ (A : Option Addr) (c : Nat) (l : List α), v = .slice A l.length c ∧ l.length ≤ c ∧ l.length ≤ 9223372036854775807 ∧ Kd.C D w A l.length l ∧ ∀ x ∈ l, good x := by
  obtain ⟨A, len, cap, rfl⟩ := okWide_slice hu hv
  obtain ⟨fuel, hf⟩ := h
  rcases open_slice hu hf with ⟨hcs, _⟩ | ⟨a, len', cap', m, q, Ds, Pl, hcs, _, hl, hm, hmm, _, hi⟩
  · simp [Value.cells] at hcs
    obtain ⟨rfl, rfl, rfl⟩ := hcs
    exact ⟨none, 0, [], rfl, Nat.le_refl _, by simp, ⟨rfl, by simp, fun h => absurd h (by simp)⟩, by simp⟩
  · simp [Value.cells] at hcs
    obtain ⟨rfl, rfl, rfl⟩ := hcs
    have hlm : len ≤ m := by
      rw [hmm]
      split
      · exact hl
      · exact Nat.le_refl _
    have key : ∀ i, i < len → ∃ (x : α) (cs : List Value), D.K w x cs ∧ good x ∧ cs.length = ls.length ∧ ∀ j u, cs[j]? = some u → w.cell? (a.add (i * ls.length + j)) = some u := by
      intro i hil
      obtain ⟨cs', h1, h2⟩ := hi i (by omega)
      rw [hc] at h1
      obtain ⟨_, hlen, hcell⟩ := World.cells?_some h1
      obtain ⟨x, hx, hg⟩ := mk cs' (plain_trod n e ls q cs' _ hp h2)
      refine ⟨x, cs', hx, hg, hlen, fun j u hu => ?_⟩
      have hj : j < ls.length := by rw [← hlen]; exact (List.getElem?_eq_some_iff.1 hu).1
      rw [← Go.Deep.add_add, hcell j hj, hu]
    have ch := collect key
    obtain ⟨l, rfl, hx⟩ := ch
    have hm' : cap ≤ 9223372036854775807 := hm
    refine ⟨some a, cap, l, rfl, hl, by omega, ⟨rfl, by omega, fun _ => ⟨a, rfl, fun j p hj => ?_⟩⟩, fun x hxl => ?_⟩
    · obtain ⟨cs, h1, _, h3, h4⟩ := hx j p hj
      refine ⟨cs, by rw [h3, hsz], h1, ?_⟩
      rw [hsz]
      exact h4
    · obtain ⟨i, hi⟩ := List.mem_iff_getElem?.1 hxl
      obtain ⟨_, _, h2, _⟩ := hx i x hi
      exact h2
end
end Go.Proofs.Ythniclbmpeklmaa.Krow
end
