/- What is proved: each Go function named here comes to what the plain function of its name comes to, whatever the memory; no conditions. Written by a program of this session (kp.py) over the kit's print. -/
import Derived.Test.YthniclbmpeklmaaKJux0
namespace Go.Proofs.Ythniclbmpeklmaa.KJu
open Go.RowKit Go.Proofs.YthniclbmpeklmaaW.PrintWords Go.Proofs.YthniclbmpeklmaaW.PrintLast Go.Proofs.YthniclbmpeklmaaW.PrintMore
attribute [local go_sem] max2_int min2_int max_two min_two max_three min_three max_four min_four   -- for this text's walks alone
set_option linter.unusedVariables false
set_option linter.unusedSimpArgs false

/-! ### knelllaw11_Of: function 30 -/
def knelllaw11_Of.f (a0_0 : Int) (a0_1 : Int) (a0_2 : Int) (a0_3 : Int) (a0_4 : Int) (a0_5 : Int) (a0_6 : Int) (a0_7 : Int) (a0_8 : Int) (a0_9 : Int) (a0_10 : Bool) (a0_11 : Int) : Option (Int × Int × Int × Int × Int × Int × Int × Int × Int × Int × Bool × Int) := some (a0_0, a0_1, a0_2, a0_3, a0_4, a0_5, a0_6, a0_7, a0_8, a0_9, a0_10, a0_11)
set_option maxHeartbeats 8000000 in
set_option maxRecDepth 100000 in
theorem knelllaw11_Of.calls (a0_0 : Int) (a0_1 : Int) (a0_2 : Int) (a0_3 : Int) (a0_4 : Int) (a0_5 : Int) (a0_6 : Int) (a0_7 : Int) (a0_8 : Int) (a0_9 : Int) (a0_10 : Bool) (a0_11 : Int) (r1 : Int) (r2 : Int) (r3 : Int) (r4 : Int) (r5 : Int) (r6 : Int) (r7 : Int) (r8 : Int) (r9 : Int) (r10 : Int) (r11 : Bool) (r12 : Int) (w : World) (h : knelllaw11_Of.f a0_0 a0_1 a0_2 a0_3 a0_4 a0_5 a0_6 a0_7 a0_8 a0_9 a0_10 a0_11 = some (r1, r2, r3, r4, r5, r6, r7, r8, r9, r10, r11, r12)) :
    Calls Try.prog 30 #[.agg #[.int .i64 a0_0, .int .i64 a0_1, .int .i64 a0_2, .int .i64 a0_3, .int .i64 a0_4, .int .i64 a0_5, .int .i64 a0_6, .int .i64 a0_7, .int .i64 a0_8, .int .i64 a0_9, .bool a0_10, .int .i64 a0_11]] w fun e w' => e = .returned (.agg #[.int .i64 r1, .int .i64 r2, .int .i64 r3, .int .i64 r4, .int .i64 r5, .int .i64 r6, .int .i64 r7, .int .i64 r8, .int .i64 r9, .int .i64 r10, .bool r11, .int .i64 r12]) ∧ Below w.heap.size w w' := by
  have hu50 := Try.underlying50
  have hu54 := Try.underlying54
  have hu34 := Try.underlying34
  have HB := Aside0.mk (Below.refl w.heap.size w)
  have H : (some (a0_0, a0_1, a0_2, a0_3, a0_4, a0_5, a0_6, a0_7, a0_8, a0_9, a0_10, a0_11)) = some (r1, r2, r3, r4, r5, r6, r7, r8, r9, r10, r11, r12) := h
  clear h
  simp only [Option.some.injEq, Prod.mk.injEq] at H
  obtain ⟨rfl, rfl, rfl, rfl, rfl, rfl, rfl, rfl, rfl, rfl, rfl, rfl⟩ := H
  go_enter Try.func30, Try.ntmps30
  go_wp2_with (first | ((with_reducible refine gate_dst (N := 1) rfl ?_); refine box_event ?hg (N := 1) ?hd (cs := #[.int .i64 a0_0, .int .i64 a0_1, .int .i64 a0_2, .int .i64 a0_3, .int .i64 a0_4, .int .i64 a0_5, .int .i64 a0_6, .int .i64 a0_7, .int .i64 a0_8, .int .i64 a0_9, .bool a0_10, .int .i64 a0_11]) (t := 50) ?hr ?_; (case hd => rfl); (case hg => rfl); (case hr => first | (go_simp; done) | (go_simp; rfl)); intro gb101 hg w2 hbox hb; have n0_ := Aside0.mk (below_step (by repeat (first | (with_reducible first | exact HB.out | apply below_alloc | apply pw_below_drewN | apply below_drew1) | exact HB.out)) hb); have n1_ := Aside0.mk (hbox); have n2_ := Aside0.mk ((by rw [hg]; exact (below_size (by repeat (first | (with_reducible first | exact HB.out | apply below_alloc | apply pw_below_drewN | apply below_drew1) | exact HB.out))) : w.heap.size ≤ gb101)); have n3_ := Aside0.mk ((by rw [hg]; exact (below_size (by repeat (first | (with_reducible first | exact HB.out | apply below_alloc | apply pw_below_drewN | apply below_drew1) | exact HB.out))) : w.heap.size ≤ gb101)); clear HB; have HB := n0_; have BK101 := n1_; have GW101 := n2_; have GE101 := n3_; clear n0_ n1_ n2_ n3_; clear hb hbox hg) | ((with_reducible refine gate_dst (N := 2) rfl ?_); refine box_event ?hg (N := 2) ?hd (cs := #[.int .i64 0, .int .i64 0, .int .i64 0, .int .i64 0, .int .i64 0, .int .i64 0, .int .i64 0, .int .i64 0, .int .i64 0, .int .i64 0, .bool false, .int .i64 0]) (t := 54) ?hr ?_; (case hd => rfl); (case hg => rfl); (case hr => first | (go_simp; done) | (go_simp; rfl)); intro gb102 hg w3 hbox hb; have n0_ := Aside0.mk (blk_below (g := gb101) (o := .cells #[.int .i64 a0_0, .int .i64 a0_1, .int .i64 a0_2, .int .i64 a0_3, .int .i64 a0_4, .int .i64 a0_5, .int .i64 a0_6, .int .i64 a0_7, .int .i64 a0_8, .int .i64 a0_9, .bool a0_10, .int .i64 a0_11] 50 (0, 0)) (by (with_reducible repeat (first | refine blk_drewN ?_ _ | refine blk_drew ?_ | refine blk_alloc ?_ _)); exact BK101.out) hb); have n1_ := Aside0.mk (below_step (by repeat (first | (with_reducible first | exact HB.out | apply below_alloc | apply pw_below_drewN | apply below_drew1 | refine below_set ?_ GE101.out) | exact HB.out)) hb); have n2_ := Aside0.mk (hbox); have n3_ := Aside0.mk ((by rw [hg]; exact (below_size (by repeat (first | (with_reducible first | exact HB.out | apply below_alloc | apply pw_below_drewN | apply below_drew1 | refine below_set ?_ GE101.out) | exact HB.out))) : w.heap.size ≤ gb102)); have n4_ := Aside0.mk ((by rw [hg]; exact (below_size (by repeat (first | (with_reducible first | exact HB.out | apply below_alloc | apply pw_below_drewN | apply below_drew1 | refine below_set ?_ GE101.out) | exact HB.out))) : w.heap.size ≤ gb102)); have n5_ := Aside0.mk ((by rw [hg]; exact Nat.ne_of_lt (blk_lt (g := gb101) (o := .cells #[.int .i64 a0_0, .int .i64 a0_1, .int .i64 a0_2, .int .i64 a0_3, .int .i64 a0_4, .int .i64 a0_5, .int .i64 a0_6, .int .i64 a0_7, .int .i64 a0_8, .int .i64 a0_9, .bool a0_10, .int .i64 a0_11] 50 (0, 0)) (by (with_reducible repeat (first | refine blk_drewN ?_ _ | refine blk_drew ?_ | refine blk_alloc ?_ _)); exact BK101.out)) : gb101 ≠ gb102)); have n6_ := Aside0.mk ((by rw [hg]; exact Nat.ne_of_gt (blk_lt (g := gb101) (o := .cells #[.int .i64 a0_0, .int .i64 a0_1, .int .i64 a0_2, .int .i64 a0_3, .int .i64 a0_4, .int .i64 a0_5, .int .i64 a0_6, .int .i64 a0_7, .int .i64 a0_8, .int .i64 a0_9, .bool a0_10, .int .i64 a0_11] 50 (0, 0)) (by (with_reducible repeat (first | refine blk_drewN ?_ _ | refine blk_drew ?_ | refine blk_alloc ?_ _)); exact BK101.out)) : gb102 ≠ gb101)); clear BK101; clear HB; have BK101 := n0_; have HB := n1_; have BK102 := n2_; have GW102 := n3_; have GE102 := n4_; have NB101_102 := n5_; have NB102_101 := n6_; clear n0_ n1_ n2_ n3_ n4_ n5_ n6_; clear hb hbox hg; have hnb4 := NB101_102.out; have hnc4 := NB102_101.out; have hcz5_0 : w3.cell? ⟨gb101, 0, none⟩ = some (.int .i64 a0_0) := (blk_cell BK101.out 0).trans rfl; have hcz5_1 : w3.cell? ⟨gb101, 1, none⟩ = some (.int .i64 a0_1) := (blk_cell BK101.out 1).trans rfl; have hcz5_2 : w3.cell? ⟨gb101, 2, none⟩ = some (.int .i64 a0_2) := (blk_cell BK101.out 2).trans rfl; have hcz5_3 : w3.cell? ⟨gb101, 3, none⟩ = some (.int .i64 a0_3) := (blk_cell BK101.out 3).trans rfl; have hcz5_4 : w3.cell? ⟨gb101, 4, none⟩ = some (.int .i64 a0_4) := (blk_cell BK101.out 4).trans rfl; have hcz5_5 : w3.cell? ⟨gb101, 5, none⟩ = some (.int .i64 a0_5) := (blk_cell BK101.out 5).trans rfl; have hcz5_6 : w3.cell? ⟨gb101, 6, none⟩ = some (.int .i64 a0_6) := (blk_cell BK101.out 6).trans rfl; have hcz5_7 : w3.cell? ⟨gb101, 7, none⟩ = some (.int .i64 a0_7) := (blk_cell BK101.out 7).trans rfl; have hcz5_8 : w3.cell? ⟨gb101, 8, none⟩ = some (.int .i64 a0_8) := (blk_cell BK101.out 8).trans rfl; have hcz5_9 : w3.cell? ⟨gb101, 9, none⟩ = some (.int .i64 a0_9) := (blk_cell BK101.out 9).trans rfl; have hcz5_10 : w3.cell? ⟨gb101, 10, none⟩ = some (.bool a0_10) := (blk_cell BK101.out 10).trans rfl; have hcz5_11 : w3.cell? ⟨gb101, 11, none⟩ = some (.int .i64 a0_11) := (blk_cell BK101.out 11).trans rfl; have hfz5_0 := blk_frozen BK101.out 0; have hfz5_1 := blk_frozen BK101.out 1; have hfz5_2 := blk_frozen BK101.out 2; have hfz5_3 := blk_frozen BK101.out 3; have hfz5_4 := blk_frozen BK101.out 4; have hfz5_5 := blk_frozen BK101.out 5; have hfz5_6 := blk_frozen BK101.out 6; have hfz5_7 := blk_frozen BK101.out 7; have hfz5_8 := blk_frozen BK101.out 8; have hfz5_9 := blk_frozen BK101.out 9; have hfz5_10 := blk_frozen BK101.out 10; have hfz5_11 := blk_frozen BK101.out 11; have hcz6_0 : w3.cell? ⟨gb102, 0, none⟩ = some (.int .i64 0) := (blk_cell BK102.out 0).trans rfl; have hcz6_1 : w3.cell? ⟨gb102, 1, none⟩ = some (.int .i64 0) := (blk_cell BK102.out 1).trans rfl; have hcz6_2 : w3.cell? ⟨gb102, 2, none⟩ = some (.int .i64 0) := (blk_cell BK102.out 2).trans rfl; have hcz6_3 : w3.cell? ⟨gb102, 3, none⟩ = some (.int .i64 0) := (blk_cell BK102.out 3).trans rfl; have hcz6_4 : w3.cell? ⟨gb102, 4, none⟩ = some (.int .i64 0) := (blk_cell BK102.out 4).trans rfl; have hcz6_5 : w3.cell? ⟨gb102, 5, none⟩ = some (.int .i64 0) := (blk_cell BK102.out 5).trans rfl; have hcz6_6 : w3.cell? ⟨gb102, 6, none⟩ = some (.int .i64 0) := (blk_cell BK102.out 6).trans rfl; have hcz6_7 : w3.cell? ⟨gb102, 7, none⟩ = some (.int .i64 0) := (blk_cell BK102.out 7).trans rfl; have hcz6_8 : w3.cell? ⟨gb102, 8, none⟩ = some (.int .i64 0) := (blk_cell BK102.out 8).trans rfl; have hcz6_9 : w3.cell? ⟨gb102, 9, none⟩ = some (.int .i64 0) := (blk_cell BK102.out 9).trans rfl; have hcz6_10 : w3.cell? ⟨gb102, 10, none⟩ = some (.bool false) := (blk_cell BK102.out 10).trans rfl; have hcz6_11 : w3.cell? ⟨gb102, 11, none⟩ = some (.int .i64 0) := (blk_cell BK102.out 11).trans rfl; have hfz6_0 := blk_frozen BK102.out 0; have hfz6_1 := blk_frozen BK102.out 1; have hfz6_2 := blk_frozen BK102.out 2; have hfz6_3 := blk_frozen BK102.out 3; have hfz6_4 := blk_frozen BK102.out 4; have hfz6_5 := blk_frozen BK102.out 5; have hfz6_6 := blk_frozen BK102.out 6; have hfz6_7 := blk_frozen BK102.out 7; have hfz6_8 := blk_frozen BK102.out 8; have hfz6_9 := blk_frozen BK102.out 9; have hfz6_10 := blk_frozen BK102.out 10; have hfz6_11 := blk_frozen BK102.out 11))
  refine bodyPost_ret (results_cell_row rfl _ _ gb102 54 #[.int .i64 a0_0, .int .i64 a0_1, .int .i64 a0_2, .int .i64 a0_3, .int .i64 a0_4, .int .i64 a0_5, .int .i64 a0_6, .int .i64 a0_7, .int .i64 a0_8, .int .i64 a0_9, .bool a0_10, .int .i64 a0_11] (0, 0) _ rfl (by (with_reducible repeat (first | refine blk_drewN ?_ _ | refine blk_drew ?_ | refine blk_alloc ?_ _)); refine blk_put (cs := #[.int .i64 a0_0, .int .i64 a0_1, .int .i64 a0_2, .int .i64 a0_3, .int .i64 a0_4, .int .i64 a0_5, .int .i64 a0_6, .int .i64 a0_7, .int .i64 a0_8, .int .i64 a0_9, .bool a0_10, .int .i64 0]) ?_ 11 _ rfl; (with_reducible repeat (first | refine blk_drewN ?_ _ | refine blk_drew ?_ | refine blk_alloc ?_ _)); refine blk_put (cs := #[.int .i64 a0_0, .int .i64 a0_1, .int .i64 a0_2, .int .i64 a0_3, .int .i64 a0_4, .int .i64 a0_5, .int .i64 a0_6, .int .i64 a0_7, .int .i64 a0_8, .int .i64 a0_9, .bool false, .int .i64 0]) ?_ 10 _ rfl; (with_reducible repeat (first | refine blk_drewN ?_ _ | refine blk_drew ?_ | refine blk_alloc ?_ _)); refine blk_put (cs := #[.int .i64 a0_0, .int .i64 a0_1, .int .i64 a0_2, .int .i64 a0_3, .int .i64 a0_4, .int .i64 a0_5, .int .i64 a0_6, .int .i64 a0_7, .int .i64 a0_8, .int .i64 0, .bool false, .int .i64 0]) ?_ 9 _ rfl; (with_reducible repeat (first | refine blk_drewN ?_ _ | refine blk_drew ?_ | refine blk_alloc ?_ _)); refine blk_put (cs := #[.int .i64 a0_0, .int .i64 a0_1, .int .i64 a0_2, .int .i64 a0_3, .int .i64 a0_4, .int .i64 a0_5, .int .i64 a0_6, .int .i64 a0_7, .int .i64 0, .int .i64 0, .bool false, .int .i64 0]) ?_ 8 _ rfl; (with_reducible repeat (first | refine blk_drewN ?_ _ | refine blk_drew ?_ | refine blk_alloc ?_ _)); refine blk_put (cs := #[.int .i64 a0_0, .int .i64 a0_1, .int .i64 a0_2, .int .i64 a0_3, .int .i64 a0_4, .int .i64 a0_5, .int .i64 a0_6, .int .i64 0, .int .i64 0, .int .i64 0, .bool false, .int .i64 0]) ?_ 7 _ rfl; (with_reducible repeat (first | refine blk_drewN ?_ _ | refine blk_drew ?_ | refine blk_alloc ?_ _)); refine blk_put (cs := #[.int .i64 a0_0, .int .i64 a0_1, .int .i64 a0_2, .int .i64 a0_3, .int .i64 a0_4, .int .i64 a0_5, .int .i64 0, .int .i64 0, .int .i64 0, .int .i64 0, .bool false, .int .i64 0]) ?_ 6 _ rfl; (with_reducible repeat (first | refine blk_drewN ?_ _ | refine blk_drew ?_ | refine blk_alloc ?_ _)); refine blk_put (cs := #[.int .i64 a0_0, .int .i64 a0_1, .int .i64 a0_2, .int .i64 a0_3, .int .i64 a0_4, .int .i64 0, .int .i64 0, .int .i64 0, .int .i64 0, .int .i64 0, .bool false, .int .i64 0]) ?_ 5 _ rfl; (with_reducible repeat (first | refine blk_drewN ?_ _ | refine blk_drew ?_ | refine blk_alloc ?_ _)); refine blk_put (cs := #[.int .i64 a0_0, .int .i64 a0_1, .int .i64 a0_2, .int .i64 a0_3, .int .i64 0, .int .i64 0, .int .i64 0, .int .i64 0, .int .i64 0, .int .i64 0, .bool false, .int .i64 0]) ?_ 4 _ rfl; (with_reducible repeat (first | refine blk_drewN ?_ _ | refine blk_drew ?_ | refine blk_alloc ?_ _)); refine blk_put (cs := #[.int .i64 a0_0, .int .i64 a0_1, .int .i64 a0_2, .int .i64 0, .int .i64 0, .int .i64 0, .int .i64 0, .int .i64 0, .int .i64 0, .int .i64 0, .bool false, .int .i64 0]) ?_ 3 _ rfl; (with_reducible repeat (first | refine blk_drewN ?_ _ | refine blk_drew ?_ | refine blk_alloc ?_ _)); refine blk_put (cs := #[.int .i64 a0_0, .int .i64 a0_1, .int .i64 0, .int .i64 0, .int .i64 0, .int .i64 0, .int .i64 0, .int .i64 0, .int .i64 0, .int .i64 0, .bool false, .int .i64 0]) ?_ 2 _ rfl; (with_reducible repeat (first | refine blk_drewN ?_ _ | refine blk_drew ?_ | refine blk_alloc ?_ _)); refine blk_put (cs := #[.int .i64 a0_0, .int .i64 0, .int .i64 0, .int .i64 0, .int .i64 0, .int .i64 0, .int .i64 0, .int .i64 0, .int .i64 0, .int .i64 0, .bool false, .int .i64 0]) ?_ 1 _ rfl; (with_reducible repeat (first | refine blk_drewN ?_ _ | refine blk_drew ?_ | refine blk_alloc ?_ _)); refine blk_put (cs := #[.int .i64 0, .int .i64 0, .int .i64 0, .int .i64 0, .int .i64 0, .int .i64 0, .int .i64 0, .int .i64 0, .int .i64 0, .int .i64 0, .bool false, .int .i64 0]) ?_ 0 _ rfl; (with_reducible repeat (first | refine blk_drewN ?_ _ | refine blk_drew ?_ | refine blk_alloc ?_ _)); exact BK102.out) Try.underlying54 rfl (by kernel_rfl)) rfl ?_
  exact ⟨by first | rfl | (simp [errW_none, errW_some] <;> rfl) | (simp [*, errW_none, errW_some] <;> rfl), by repeat (first | (with_reducible first | exact HB.out | apply below_alloc | apply pw_below_drewN | apply below_drew1 | refine below_set ?_ GE101.out | refine below_set ?_ GE102.out) | exact HB.out)⟩

/-! ### knelllaw11_Ofs: function 16 -/
def knelllaw11_Ofs.l0 : Nat → List (S54) → List (S50) → Int → Int → Option ((List (S54)))
  | 0, _, _, _, _ => none
  | k + 1, x3, x6, x7, x8 => if x8 < x7 then (if 0 ≤ x8 then (if x8 < (x6.length : Int) then ((knelllaw11_Of.f ((rd_T50 x6 x8).f0) ((rd_T50 x6 x8).f1) ((rd_T50 x6 x8).f2) ((rd_T50 x6 x8).f3.f0) ((rd_T50 x6 x8).f3.f1) ((rd_T50 x6 x8).f4.f0) ((rd_T50 x6 x8).f4.f1) ((rd_T50 x6 x8).f5) ((rd_T50 x6 x8).f6) ((rd_T50 x6 x8).f7) ((rd_T50 x6 x8).f8) ((rd_T50 x6 x8).f9)).bind fun bt105 => (if x3.length < 1466015503701 then (knelllaw11_Ofs.l0 k (x3 ++ [(⟨bt105.1, bt105.2.1, bt105.2.2.1, (⟨bt105.2.2.2.1, bt105.2.2.2.2.1⟩ : S34), (⟨bt105.2.2.2.2.2.1, bt105.2.2.2.2.2.2.1⟩ : S34), bt105.2.2.2.2.2.2.2.1, bt105.2.2.2.2.2.2.2.2.1, bt105.2.2.2.2.2.2.2.2.2.1, bt105.2.2.2.2.2.2.2.2.2.2.1, bt105.2.2.2.2.2.2.2.2.2.2.2⟩ : S54)]) x6 x7 (wrap64 (x8 + 1))) else (none))) else (none)) else (none)) else (some x3)
def knelllaw11_Ofs.f (k : Nat) (l0 : List (S50)) : Option ((List (S54))) := knelllaw11_Ofs.l0 k ([] : List (S54)) l0 (l0.length : Int) 0
theorem knelllaw11_Ofs.mono_l : ∀ k, (∀ y0 y1 y2 y3, LeO (knelllaw11_Ofs.l0 k y0 y1 y2 y3) (knelllaw11_Ofs.l0 (k + 1) y0 y1 y2 y3))
  | 0 => fun _ _ _ _ r h => by simp [knelllaw11_Ofs.l0] at h
  | k + 1 => by
    have ih0 := knelllaw11_Ofs.mono_l k
    · intro y0 y1 y2 y3
      unfold knelllaw11_Ofs.l0
      repeat' first
      | (with_reducible exact ih0 _ _ _ _)
      | (with_reducible exact LeO.refl _)
      | (with_reducible exact LeO.none _)
      | (with_reducible refine LeO.ite ?_ ?_)
      | (with_reducible refine LeO.bind ?_ (fun _ => ?_))
      | exact ih0 _ _ _ _
      | exact LeO.none _
      | refine LeO.ite ?_ ?_
      | refine LeO.bind ?_ (fun _ => ?_)
theorem knelllaw11_Ofs.mono : ∀ a0 k, LeO (knelllaw11_Ofs.f k a0) (knelllaw11_Ofs.f (k + 1) a0) := by
  intro a0 k
  have ih0 := knelllaw11_Ofs.mono_l k
  unfold knelllaw11_Ofs.f
  repeat' first
      | (with_reducible exact ih0 _ _ _ _)
      | (with_reducible exact LeO.refl _)
      | (with_reducible exact LeO.none _)
      | (with_reducible refine LeO.ite ?_ ?_)
      | (with_reducible refine LeO.bind ?_ (fun _ => ?_))
      | exact ih0 _ _ _ _
      | exact LeO.none _
      | refine LeO.ite ?_ ?_
      | refine LeO.bind ?_ (fun _ => ?_)
set_option maxHeartbeats 8000000 in
set_option maxRecDepth 100000 in
theorem knelllaw11_Ofs.calls (k : Nat) (A0 : Option Addr) (c0 : Nat) (l0 : List (S50)) (r : List (S54)) (w : World) (hr0 : Kd.C k50 w A0 l0.length l0) (hc0 : l0.length ≤ c0) (h : knelllaw11_Ofs.f k l0 = some r) :
    Calls Try.prog 16 #[.slice A0 l0.length c0] w fun e w' => ∃ v0_ : Value, e = .returned (v0_) ∧ Kd.R k54 54 w' w.heap.size (fun _ => True) v0_ r ∧ Below w.heap.size w w' := by
  have hu50 := Try.underlying50
  have HR0 := Aside0.mk hr0
  have HC0 := Aside0.mk hc0
  clear hr0 hc0
  have HB := Aside0.mk (Below.refl w.heap.size w)
  have H : (knelllaw11_Ofs.l0 k ([] : List (S54)) l0 (l0.length : Int) 0) = some r := h
  clear h
  have H' := Aside0.mk H
  clear H
  go_enter Try.func16, Try.ntmps16
  go_wp2
  go_loopg [3, 8] k (fun kq v3 v8 w' => ∃ (x3_1 : List (S54)) (x8_1 : Int), v8 = .int .i64 x8_1 ∧ Aside0 (knelllaw11_Ofs.l0 kq x3_1 l0 (l0.length : Int) x8_1 = some r) ∧ Aside0 (kq ≤ k) ∧ Aside0 (Kd.R k54 54 w' w.heap.size (fun _ => True) v3 x3_1) ∧ Aside0 (Below w.heap.size w w'))
  case atStart => exact ⟨(([] : List (S54))), (0), (by first | rfl | (simp; done) | (simp [*]; done)), H', ⟨Nat.le_refl _⟩, ⟨by first | exact Kd.R_nil _ _ _ _ _ | exact Kd.N_nil _ _ _ _ _ | exact Kd.V_nil _ _ _ _ _ | exact Kd.Q_nil _ _ _ _ _ | exact Kd.S_nil _ _ _ _ _⟩, ⟨by repeat (first | (with_reducible first | exact HB.out | apply below_alloc | apply pw_below_drewN | apply below_drew1) | exact HB.out)⟩⟩
  case round =>
    clear H'
    try clear c1
    obtain ⟨x3_1, x8_1, rfl, HA, HK1, HO_3, HB⟩ := hrel
    cases gk with
    | zero => exact absurd HA.out (by simp [knelllaw11_Ofs.l0])
    | succ k1 =>
      have H := HA.out
      clear HA
      simp only [knelllaw11_Ofs.l0] at H
      by_cases c2 : x8_1 < (l0.length : Int)
      · rw [if_pos c2] at H
        have c2b0 : decide (x8_1 < (l0.length : Int)) = true := decide_eq_true c2
        clear c2
        by_cases c3 : 0 ≤ x8_1
        · rw [if_pos c3] at H
          have c3b0 : decide (0 ≤ x8_1) = true := decide_eq_true c3
          clear c3
          by_cases c4 : x8_1 < (l0.length : Int)
          · rw [if_pos c4] at H
            have c4b0 : decide (x8_1 < (l0.length : Int)) = true := decide_eq_true c4
            clear c4
            replace H := Option.bind_eq_some_iff.mp H
            obtain ⟨⟨t105, t106, t107, t108, t109, t110, t111, t112, t113, t114, t115, t116⟩, A50, H⟩ := H
            replace H : (if x3_1.length < 1466015503701 then (knelllaw11_Ofs.l0 k1 (x3_1 ++ [(⟨t105, t106, t107, (⟨t108, t109⟩ : S34), (⟨t110, t111⟩ : S34), t112, t113, t114, t115, t116⟩ : S54)]) l0 (l0.length : Int) (wrap64 (x8_1 + 1))) else (none)) = some r := H
            have A5 := Aside0.mk A50
            clear A50
            by_cases c6 : x3_1.length < 1466015503701
            · rw [if_pos c6] at H
              have LMc6 := Aside0.mk c6
              clear c6
              obtain ⟨y117, hy117⟩ : ∃ y_ : List (S54), y_ = (x3_1 ++ [(⟨t105, t106, t107, (⟨t108, t109⟩ : S34), (⟨t110, t111⟩ : S34), t112, t113, t114, t115, t116⟩ : S54)]) := ⟨_, rfl⟩
              replace H : (knelllaw11_Ofs.l0 k1 y117 l0 (l0.length : Int) (wrap64 (x8_1 + 1))) = some r := by first | (rw [hy117]; with_reducible exact H) | (have H2_ := (Option.bind_some _ _).symm.trans H; rw [hy117]; with_reducible exact H2_) | (have H2_ := (Option.bind_some _ _).symm.trans H; with_reducible exact H2_) | with_reducible exact H | (rw [hy117]; exact H) | exact H
              have Ny117 := Aside0.mk hy117
              clear hy117
              have H' := Aside0.mk H
              clear H
              have p103 : 0 ≤ (x8_1 : Int) := of_decide_eq_true (by first | (with_reducible assumption) | assumption)
              have q103 : x8_1 < (l0.length : Int) := of_decide_eq_true (by first | (with_reducible assumption) | assumption)
              obtain ⟨ad103, e103, hx103_0, hx103_1, hx103_2, hx103_3, hx103_4, hx103_5, hx103_6, hx103_7, hx103_8, hx103_9, hx103_10, hx103_11⟩ := at_T50 HR0.out x8_1 p103 q103
              cases e103
              replace hx103_0 := (HB.out.cell (World.block_lt_of_cell? w _ hx103_0)).trans hx103_0
              replace hx103_1 := (HB.out.cell (World.block_lt_of_cell? w _ hx103_1)).trans hx103_1
              replace hx103_2 := (HB.out.cell (World.block_lt_of_cell? w _ hx103_2)).trans hx103_2
              replace hx103_3 := (HB.out.cell (World.block_lt_of_cell? w _ hx103_3)).trans hx103_3
              replace hx103_4 := (HB.out.cell (World.block_lt_of_cell? w _ hx103_4)).trans hx103_4
              replace hx103_5 := (HB.out.cell (World.block_lt_of_cell? w _ hx103_5)).trans hx103_5
              replace hx103_6 := (HB.out.cell (World.block_lt_of_cell? w _ hx103_6)).trans hx103_6
              replace hx103_7 := (HB.out.cell (World.block_lt_of_cell? w _ hx103_7)).trans hx103_7
              replace hx103_8 := (HB.out.cell (World.block_lt_of_cell? w _ hx103_8)).trans hx103_8
              replace hx103_9 := (HB.out.cell (World.block_lt_of_cell? w _ hx103_9)).trans hx103_9
              replace hx103_10 := (HB.out.cell (World.block_lt_of_cell? w _ hx103_10)).trans hx103_10
              replace hx103_11 := (HB.out.cell (World.block_lt_of_cell? w _ hx103_11)).trans hx103_11
              replace p103 := eq_true p103
              replace q103 := eq_true q103
              go_wp2_with (first | ((with_reducible refine gate_dst (N := 5) rfl ?_); refine box_event ?hg (N := 5) ?hd (cs := #[.int .i64 0, .int .i64 0, .int .i64 0, .int .i64 0, .int .i64 0, .int .i64 0, .int .i64 0, .int .i64 0, .int .i64 0, .int .i64 0, .bool false, .int .i64 0]) (t := 50) ?hr ?_; (case hd => rfl); (case hg => rfl); (case hr => first | (go_simp; done) | (go_simp; rfl)); intro gb104 hg w7 hbox hb; have n0_ := Aside0.mk (Kd.R_below (by (with_reducible repeat (first | apply Kd.R_alloc | apply Kd.R_drewN | apply Kd.R_drew)); exact HO_3.out) hb); have n1_ := Aside0.mk (below_step (by repeat (first | (with_reducible first | exact HB.out | apply below_alloc | apply pw_below_drewN | apply below_drew1) | exact HB.out)) hb); have n2_ := Aside0.mk (hbox); have n3_ := Aside0.mk ((by rw [hg]; exact (below_size (by repeat (first | (with_reducible first | exact HB.out | apply below_alloc | apply pw_below_drewN | apply below_drew1) | exact HB.out))) : w.heap.size ≤ gb104)); have n4_ := Aside0.mk ((by rw [hg]; exact (below_size (by repeat (first | (with_reducible first | exact HB.out | apply below_alloc | apply pw_below_drewN | apply below_drew1) | exact HB.out))) : w.heap.size ≤ gb104)); clear HO_3; clear HB; have HO_3 := n0_; have HB := n1_; have BK104 := n2_; have GW104 := n3_; have GE104 := n4_; clear n0_ n1_ n2_ n3_ n4_; clear hb hbox hg; have hcz8_0 : w7.cell? ⟨gb104, 0, none⟩ = some (.int .i64 0) := (blk_cell BK104.out 0).trans rfl; have hcz8_1 : w7.cell? ⟨gb104, 1, none⟩ = some (.int .i64 0) := (blk_cell BK104.out 1).trans rfl; have hcz8_2 : w7.cell? ⟨gb104, 2, none⟩ = some (.int .i64 0) := (blk_cell BK104.out 2).trans rfl; have hcz8_3 : w7.cell? ⟨gb104, 3, none⟩ = some (.int .i64 0) := (blk_cell BK104.out 3).trans rfl; have hcz8_4 : w7.cell? ⟨gb104, 4, none⟩ = some (.int .i64 0) := (blk_cell BK104.out 4).trans rfl; have hcz8_5 : w7.cell? ⟨gb104, 5, none⟩ = some (.int .i64 0) := (blk_cell BK104.out 5).trans rfl; have hcz8_6 : w7.cell? ⟨gb104, 6, none⟩ = some (.int .i64 0) := (blk_cell BK104.out 6).trans rfl; have hcz8_7 : w7.cell? ⟨gb104, 7, none⟩ = some (.int .i64 0) := (blk_cell BK104.out 7).trans rfl; have hcz8_8 : w7.cell? ⟨gb104, 8, none⟩ = some (.int .i64 0) := (blk_cell BK104.out 8).trans rfl; have hcz8_9 : w7.cell? ⟨gb104, 9, none⟩ = some (.int .i64 0) := (blk_cell BK104.out 9).trans rfl; have hcz8_10 : w7.cell? ⟨gb104, 10, none⟩ = some (.bool false) := (blk_cell BK104.out 10).trans rfl; have hcz8_11 : w7.cell? ⟨gb104, 11, none⟩ = some (.int .i64 0) := (blk_cell BK104.out 11).trans rfl; have hfz8_0 := blk_frozen BK104.out 0; have hfz8_1 := blk_frozen BK104.out 1; have hfz8_2 := blk_frozen BK104.out 2; have hfz8_3 := blk_frozen BK104.out 3; have hfz8_4 := blk_frozen BK104.out 4; have hfz8_5 := blk_frozen BK104.out 5; have hfz8_6 := blk_frozen BK104.out 6; have hfz8_7 := blk_frozen BK104.out 7; have hfz8_8 := blk_frozen BK104.out 8; have hfz8_9 := blk_frozen BK104.out 9; have hfz8_10 := blk_frozen BK104.out 10; have hfz8_11 := blk_frozen BK104.out 11) | ((with_reducible refine gate_callee (f := 30) rfl ?_); refine goesL_ (some 14) rfl rfl Try.func30 (by kernel_rfl) rfl #[.agg #[.int .i64 ((rd_T50 l0 x8_1).f0), .int .i64 ((rd_T50 l0 x8_1).f1), .int .i64 ((rd_T50 l0 x8_1).f2), .int .i64 ((rd_T50 l0 x8_1).f3.f0), .int .i64 ((rd_T50 l0 x8_1).f3.f1), .int .i64 ((rd_T50 l0 x8_1).f4.f0), .int .i64 ((rd_T50 l0 x8_1).f4.f1), .int .i64 ((rd_T50 l0 x8_1).f5), .int .i64 ((rd_T50 l0 x8_1).f6), .int .i64 ((rd_T50 l0 x8_1).f7), .bool ((rd_T50 l0 x8_1).f8), .int .i64 ((rd_T50 l0 x8_1).f9)]] rfl (by (try simp only [List.map_toArray, List.map_cons, List.map_nil]); first | done | rfl | (simp only [List.length_drop, List.length_take]; rfl)) ?_; (with_reducible refine (knelllaw11_Of.calls ((rd_T50 l0 x8_1).f0) ((rd_T50 l0 x8_1).f1) ((rd_T50 l0 x8_1).f2) ((rd_T50 l0 x8_1).f3.f0) ((rd_T50 l0 x8_1).f3.f1) ((rd_T50 l0 x8_1).f4.f0) ((rd_T50 l0 x8_1).f4.f1) ((rd_T50 l0 x8_1).f5) ((rd_T50 l0 x8_1).f6) ((rd_T50 l0 x8_1).f7) ((rd_T50 l0 x8_1).f8) ((rd_T50 l0 x8_1).f9) t105 t106 t107 t108 t109 t110 t111 t112 t113 t114 t115 t116 _ A5.out).mono ?_); rintro e w9 ⟨rfl, hb⟩; refine ⟨_, rfl, ?_⟩; have n0_ := Aside0.mk (Kd.R_below (by (with_reducible repeat (first | apply Kd.R_alloc | apply Kd.R_drewN | apply Kd.R_drew)); exact (Kd.R_mono (Kd.R_far (p := ⟨gb104, 11, none⟩) (Kd.R_far (p := ⟨gb104, 10, none⟩) (Kd.R_far (p := ⟨gb104, 9, none⟩) (Kd.R_far (p := ⟨gb104, 8, none⟩) (Kd.R_far (p := ⟨gb104, 7, none⟩) (Kd.R_far (p := ⟨gb104, 6, none⟩) (Kd.R_far (p := ⟨gb104, 5, none⟩) (Kd.R_far (p := ⟨gb104, 4, none⟩) (Kd.R_far (p := ⟨gb104, 3, none⟩) (Kd.R_far (p := ⟨gb104, 2, none⟩) (Kd.R_far (p := ⟨gb104, 1, none⟩) (Kd.R_far (p := ⟨gb104, 0, none⟩) (Kd.R_types HO_3.out BK104.out (by decide)) (fun _ hk => hk.2) (.int .i64 ((rd_T50 l0 x8_1).f0))) (fun _ hk => hk.2) (.int .i64 ((rd_T50 l0 x8_1).f1))) (fun _ hk => hk.2) (.int .i64 ((rd_T50 l0 x8_1).f2))) (fun _ hk => hk.2) (.int .i64 ((rd_T50 l0 x8_1).f3.f0))) (fun _ hk => hk.2) (.int .i64 ((rd_T50 l0 x8_1).f3.f1))) (fun _ hk => hk.2) (.int .i64 ((rd_T50 l0 x8_1).f4.f0))) (fun _ hk => hk.2) (.int .i64 ((rd_T50 l0 x8_1).f4.f1))) (fun _ hk => hk.2) (.int .i64 ((rd_T50 l0 x8_1).f5))) (fun _ hk => hk.2) (.int .i64 ((rd_T50 l0 x8_1).f6))) (fun _ hk => hk.2) (.int .i64 ((rd_T50 l0 x8_1).f7))) (fun _ hk => hk.2) (.bool ((rd_T50 l0 x8_1).f8))) (fun _ hk => hk.2) (.int .i64 ((rd_T50 l0 x8_1).f9))) (fun _ h_ => h_.1))) hb); have n1_ := Aside0.mk (blk_below (g := gb104) (o := .cells #[.int .i64 ((rd_T50 l0 x8_1).f0), .int .i64 ((rd_T50 l0 x8_1).f1), .int .i64 ((rd_T50 l0 x8_1).f2), .int .i64 ((rd_T50 l0 x8_1).f3.f0), .int .i64 ((rd_T50 l0 x8_1).f3.f1), .int .i64 ((rd_T50 l0 x8_1).f4.f0), .int .i64 ((rd_T50 l0 x8_1).f4.f1), .int .i64 ((rd_T50 l0 x8_1).f5), .int .i64 ((rd_T50 l0 x8_1).f6), .int .i64 ((rd_T50 l0 x8_1).f7), .bool ((rd_T50 l0 x8_1).f8), .int .i64 ((rd_T50 l0 x8_1).f9)] 50 (0, 0)) (by (with_reducible repeat (first | refine blk_drewN ?_ _ | refine blk_drew ?_ | refine blk_alloc ?_ _)); refine blk_put (cs := #[.int .i64 ((rd_T50 l0 x8_1).f0), .int .i64 ((rd_T50 l0 x8_1).f1), .int .i64 ((rd_T50 l0 x8_1).f2), .int .i64 ((rd_T50 l0 x8_1).f3.f0), .int .i64 ((rd_T50 l0 x8_1).f3.f1), .int .i64 ((rd_T50 l0 x8_1).f4.f0), .int .i64 ((rd_T50 l0 x8_1).f4.f1), .int .i64 ((rd_T50 l0 x8_1).f5), .int .i64 ((rd_T50 l0 x8_1).f6), .int .i64 ((rd_T50 l0 x8_1).f7), .bool ((rd_T50 l0 x8_1).f8), .int .i64 0]) ?_ 11 _ rfl; (with_reducible repeat (first | refine blk_drewN ?_ _ | refine blk_drew ?_ | refine blk_alloc ?_ _)); refine blk_put (cs := #[.int .i64 ((rd_T50 l0 x8_1).f0), .int .i64 ((rd_T50 l0 x8_1).f1), .int .i64 ((rd_T50 l0 x8_1).f2), .int .i64 ((rd_T50 l0 x8_1).f3.f0), .int .i64 ((rd_T50 l0 x8_1).f3.f1), .int .i64 ((rd_T50 l0 x8_1).f4.f0), .int .i64 ((rd_T50 l0 x8_1).f4.f1), .int .i64 ((rd_T50 l0 x8_1).f5), .int .i64 ((rd_T50 l0 x8_1).f6), .int .i64 ((rd_T50 l0 x8_1).f7), .bool false, .int .i64 0]) ?_ 10 _ rfl; (with_reducible repeat (first | refine blk_drewN ?_ _ | refine blk_drew ?_ | refine blk_alloc ?_ _)); refine blk_put (cs := #[.int .i64 ((rd_T50 l0 x8_1).f0), .int .i64 ((rd_T50 l0 x8_1).f1), .int .i64 ((rd_T50 l0 x8_1).f2), .int .i64 ((rd_T50 l0 x8_1).f3.f0), .int .i64 ((rd_T50 l0 x8_1).f3.f1), .int .i64 ((rd_T50 l0 x8_1).f4.f0), .int .i64 ((rd_T50 l0 x8_1).f4.f1), .int .i64 ((rd_T50 l0 x8_1).f5), .int .i64 ((rd_T50 l0 x8_1).f6), .int .i64 0, .bool false, .int .i64 0]) ?_ 9 _ rfl; (with_reducible repeat (first | refine blk_drewN ?_ _ | refine blk_drew ?_ | refine blk_alloc ?_ _)); refine blk_put (cs := #[.int .i64 ((rd_T50 l0 x8_1).f0), .int .i64 ((rd_T50 l0 x8_1).f1), .int .i64 ((rd_T50 l0 x8_1).f2), .int .i64 ((rd_T50 l0 x8_1).f3.f0), .int .i64 ((rd_T50 l0 x8_1).f3.f1), .int .i64 ((rd_T50 l0 x8_1).f4.f0), .int .i64 ((rd_T50 l0 x8_1).f4.f1), .int .i64 ((rd_T50 l0 x8_1).f5), .int .i64 0, .int .i64 0, .bool false, .int .i64 0]) ?_ 8 _ rfl; (with_reducible repeat (first | refine blk_drewN ?_ _ | refine blk_drew ?_ | refine blk_alloc ?_ _)); refine blk_put (cs := #[.int .i64 ((rd_T50 l0 x8_1).f0), .int .i64 ((rd_T50 l0 x8_1).f1), .int .i64 ((rd_T50 l0 x8_1).f2), .int .i64 ((rd_T50 l0 x8_1).f3.f0), .int .i64 ((rd_T50 l0 x8_1).f3.f1), .int .i64 ((rd_T50 l0 x8_1).f4.f0), .int .i64 ((rd_T50 l0 x8_1).f4.f1), .int .i64 0, .int .i64 0, .int .i64 0, .bool false, .int .i64 0]) ?_ 7 _ rfl; (with_reducible repeat (first | refine blk_drewN ?_ _ | refine blk_drew ?_ | refine blk_alloc ?_ _)); refine blk_put (cs := #[.int .i64 ((rd_T50 l0 x8_1).f0), .int .i64 ((rd_T50 l0 x8_1).f1), .int .i64 ((rd_T50 l0 x8_1).f2), .int .i64 ((rd_T50 l0 x8_1).f3.f0), .int .i64 ((rd_T50 l0 x8_1).f3.f1), .int .i64 ((rd_T50 l0 x8_1).f4.f0), .int .i64 0, .int .i64 0, .int .i64 0, .int .i64 0, .bool false, .int .i64 0]) ?_ 6 _ rfl; (with_reducible repeat (first | refine blk_drewN ?_ _ | refine blk_drew ?_ | refine blk_alloc ?_ _)); refine blk_put (cs := #[.int .i64 ((rd_T50 l0 x8_1).f0), .int .i64 ((rd_T50 l0 x8_1).f1), .int .i64 ((rd_T50 l0 x8_1).f2), .int .i64 ((rd_T50 l0 x8_1).f3.f0), .int .i64 ((rd_T50 l0 x8_1).f3.f1), .int .i64 0, .int .i64 0, .int .i64 0, .int .i64 0, .int .i64 0, .bool false, .int .i64 0]) ?_ 5 _ rfl; (with_reducible repeat (first | refine blk_drewN ?_ _ | refine blk_drew ?_ | refine blk_alloc ?_ _)); refine blk_put (cs := #[.int .i64 ((rd_T50 l0 x8_1).f0), .int .i64 ((rd_T50 l0 x8_1).f1), .int .i64 ((rd_T50 l0 x8_1).f2), .int .i64 ((rd_T50 l0 x8_1).f3.f0), .int .i64 0, .int .i64 0, .int .i64 0, .int .i64 0, .int .i64 0, .int .i64 0, .bool false, .int .i64 0]) ?_ 4 _ rfl; (with_reducible repeat (first | refine blk_drewN ?_ _ | refine blk_drew ?_ | refine blk_alloc ?_ _)); refine blk_put (cs := #[.int .i64 ((rd_T50 l0 x8_1).f0), .int .i64 ((rd_T50 l0 x8_1).f1), .int .i64 ((rd_T50 l0 x8_1).f2), .int .i64 0, .int .i64 0, .int .i64 0, .int .i64 0, .int .i64 0, .int .i64 0, .int .i64 0, .bool false, .int .i64 0]) ?_ 3 _ rfl; (with_reducible repeat (first | refine blk_drewN ?_ _ | refine blk_drew ?_ | refine blk_alloc ?_ _)); refine blk_put (cs := #[.int .i64 ((rd_T50 l0 x8_1).f0), .int .i64 ((rd_T50 l0 x8_1).f1), .int .i64 0, .int .i64 0, .int .i64 0, .int .i64 0, .int .i64 0, .int .i64 0, .int .i64 0, .int .i64 0, .bool false, .int .i64 0]) ?_ 2 _ rfl; (with_reducible repeat (first | refine blk_drewN ?_ _ | refine blk_drew ?_ | refine blk_alloc ?_ _)); refine blk_put (cs := #[.int .i64 ((rd_T50 l0 x8_1).f0), .int .i64 0, .int .i64 0, .int .i64 0, .int .i64 0, .int .i64 0, .int .i64 0, .int .i64 0, .int .i64 0, .int .i64 0, .bool false, .int .i64 0]) ?_ 1 _ rfl; (with_reducible repeat (first | refine blk_drewN ?_ _ | refine blk_drew ?_ | refine blk_alloc ?_ _)); refine blk_put (cs := #[.int .i64 0, .int .i64 0, .int .i64 0, .int .i64 0, .int .i64 0, .int .i64 0, .int .i64 0, .int .i64 0, .int .i64 0, .int .i64 0, .bool false, .int .i64 0]) ?_ 0 _ rfl; (with_reducible repeat (first | refine blk_drewN ?_ _ | refine blk_drew ?_ | refine blk_alloc ?_ _)); exact BK104.out) hb); have n2_ := Aside0.mk (below_step (by repeat (first | (with_reducible first | exact HB.out | apply below_alloc | apply pw_below_drewN | apply below_drew1 | refine below_set ?_ GE104.out) | exact HB.out)) hb); clear HO_3; clear BK104; clear HB; have HO_3 := n0_; have BK104 := n1_; have HB := n2_; clear n0_ n1_ n2_; (try clear hb); (try clear hb2); (try clear hk); (try clear hi)) | ((with_reducible refine gate_builtin (b := .append) (xs := #[.tmp 12, .tmp 15]) rfl ?_); at_builtin; refine Kd.R_append k54 (w0 := w) w.heap.size rfl (.tmp 12) (.tmp 15) 24 54 (.agg #[(.int .i64 0), (.int .i64 0), (.int .i64 0), (.int .i64 0), (.int .i64 0), (.int .i64 0), (.int .i64 0), (.int .i64 0), (.int .i64 0), (.int .i64 0), (.bool false), (.int .i64 0)]) 96 rfl Try.underlying24 info54 rfl (by decide) (by omega) u3 x3_1 (⟨t105, t106, t107, (⟨t108, t109⟩ : S34), (⟨t110, t111⟩ : S34), t112, t113, t114, t115, t116⟩ : S54) [.int .i64 t105, .int .i64 t106, .int .i64 t107, .int .i64 t108, .int .i64 t109, .int .i64 t110, .int .i64 t111, .int .i64 t112, .int .i64 t113, .int .i64 t114, .bool t115, .int .i64 t116] (fun _ => True) (fun _ => False) rfl rfl ?aP (fun _ hk => hk.elim) ?aF ?aO ?aB ?aS ?aL ?_; (case aP => exact k54_mkM _ _ _ (⟨t105, t106, t107, (⟨t108, t109⟩ : S34), (⟨t110, t111⟩ : S34), t112, t113, t114, t115, t116⟩ : S54)); (case aB => exact (by repeat (first | (with_reducible first | exact HB.out | apply below_alloc | apply pw_below_drewN | apply below_drew1 | refine below_set ?_ GE104.out) | exact HB.out))); (case aF => exact (fun _ _ => trivial)); (case aO => exact (by (with_reducible repeat (first | apply Kd.R_alloc | apply Kd.R_drewN | apply Kd.R_drew)); exact HO_3.out)); (case aS => exact (below_size (by repeat (first | (with_reducible first | exact HB.out | apply below_alloc | apply pw_below_drewN | apply below_drew1 | refine below_set ?_ GE104.out) | exact HB.out)))); (case aL => have := LMc6.out; omega); intro v118 w10 ho hb hg hat; rw [← Ny117.out] at ho; have n0_ := Aside0.mk (blk_grown (g := gb104) (o := .cells #[.int .i64 ((rd_T50 l0 x8_1).f0), .int .i64 ((rd_T50 l0 x8_1).f1), .int .i64 ((rd_T50 l0 x8_1).f2), .int .i64 ((rd_T50 l0 x8_1).f3.f0), .int .i64 ((rd_T50 l0 x8_1).f3.f1), .int .i64 ((rd_T50 l0 x8_1).f4.f0), .int .i64 ((rd_T50 l0 x8_1).f4.f1), .int .i64 ((rd_T50 l0 x8_1).f5), .int .i64 ((rd_T50 l0 x8_1).f6), .int .i64 ((rd_T50 l0 x8_1).f7), .bool ((rd_T50 l0 x8_1).f8), .int .i64 ((rd_T50 l0 x8_1).f9)] 50 (0, 0)) (by (with_reducible repeat (first | refine blk_drewN ?_ _ | refine blk_drew ?_ | refine blk_alloc ?_ _)); exact BK104.out) hg (Kd.R_ne HO_3.out BK104.out (by decide))); have n1_ := Aside0.mk (hb); have n2_ := Aside0.mk (ho); clear BK104; clear HB; clear HO_3; have BK104 := n0_; have HB := n1_; have HO119 := n2_; clear n0_ n1_ n2_; clear ho hb hg hat))
              go_roundg k1
              case measure => have := HK1.out; omega
              case rel => exact ⟨(y117), (wrap64 (x8_1 + 1)), (by first | rfl | (simp; done) | (simp [*]; done)), H', ⟨by have := HK1.out; omega⟩, ⟨by (with_reducible repeat (first | apply Kd.R_alloc | apply Kd.R_drewN | apply Kd.R_drew)); exact HO119.out⟩, ⟨by repeat (first | (with_reducible first | exact HB.out | apply below_alloc | apply pw_below_drewN | apply below_drew1 | refine below_set ?_ GE104.out) | exact HB.out)⟩⟩
            · rw [if_neg c6] at H
              exact absurd H (by simp)
          · rw [if_neg c4] at H
            exact absurd H (by simp)
        · rw [if_neg c3] at H
          exact absurd H (by simp)
      · rw [if_neg c2] at H
        have c2b0 : decide (x8_1 < (l0.length : Int)) = false := decide_eq_false c2
        clear c2
        obtain rfl := Option.some.inj H
        go_wp2
        go_ret
        exact ⟨_, by first | rfl | (simp [errW_none, errW_some] <;> rfl) | (simp [*, errW_none, errW_some] <;> rfl), by (with_reducible repeat (first | apply Kd.R_alloc | apply Kd.R_drewN | apply Kd.R_drew)); exact HO_3.out, by repeat (first | (with_reducible first | exact HB.out | apply below_alloc | apply pw_below_drewN | apply below_drew1) | exact HB.out)⟩

-- NOT PRINTED: function 40 (model_New)

-- NOT PRINTED: function 26 (judge_New)

-- NOT PRINTED: function 106 (event_pick)

-- NOT PRINTED: function 92 (event_fields)

-- NOT PRINTED: function 93 (event_counted)

-- NOT PRINTED: function 94 (event_bare)

-- NOT PRINTED: function 65 (event_Right)

-- NOT PRINTED: function 95 (judge_within)

-- NOT PRINTED: function 66 (judge_Bench_point)

-- NOT PRINTED: function 67 (judge_work_answers)

-- NOT PRINTED: function 29 (judge_Bench_Hear)

/-! ### knelllaw13_speaks: function 25, by hand -/
def knelllaw13_speaks.f : Option Bool := some true
theorem knelllaw13_speaks.calls (r1 : Bool) (w : World) (h : knelllaw13_speaks.f = some r1) :
    Calls Try.prog 25 #[] w fun e w' => e = .returned (.bool r1) ∧ Below w.heap.size w w' := by
  have e := Option.some.inj h
  rw [← e]
  exact Go.Proofs.Ythniclbmpeklmaa.Ju.speaks_any w

/-! ### judge_Judge: function 37, by hand -/
def judge_Judge.ev (x : S54) : Go.Proofs.Ythniclbmpeklmaa.Au.Ev := ⟨x.f0, x.f1, x.f2, x.f3.f0, x.f3.f1, x.f4.f0, x.f4.f1, x.f5, x.f6, x.f7, x.f8, x.f9⟩
def judge_Judge.f (l0 : List S54) (a1 : Int) : Option (Int × Int) := if l0.length ≤ 200000 ∧ (l0.all fun x => Go.Proofs.Ythniclbmpeklmaa.Ju.wfB' (judge_Judge.ev x)) = true then some (Go.Proofs.Ythniclbmpeklmaa.Ju.judgeF (l0.map judge_Judge.ev) a1) else none
theorem judge_Judge.calls (A0 : Option Addr) (c0 : Nat) (l0 : List S54) (a1 : Int) (r1 : Int) (r2 : Int) (w : World) (hr0 : Kd.C k54 w A0 l0.length l0) (hc0 : l0.length ≤ c0) (h : judge_Judge.f l0 a1 = some (r1, r2)) :
    Calls Try.prog 37 #[.slice A0 l0.length c0, .int .i64 a1] w fun e w' => e = .returned (.tuple #[.int .i64 r1, .int .i64 r2]) ∧ Below w.heap.size w w' := by
  unfold judge_Judge.f at h
  split at h
  · rename_i hs
    have h1 := Go.Proofs.Ythniclbmpeklmaa.Ju.judge_any A0 c0 a1 (l0.map judge_Judge.ev) (by rw [List.length_map]; exact hs.1) w (fun i e he => by
      rw [List.getElem?_map] at he
      obtain ⟨x, hx, rfl⟩ := Option.map_eq_some_iff.1 he
      have hi : i < l0.length := (List.getElem?_eq_some_iff.1 hx).1
      have hrd : rd_T54 l0 (i : Int) = x := by
        show l0.getD i z54 = x
        rw [List.getD_eq_getElem?_getD, hx]; rfl
      have hat := at_T54 hr0 (i : Int) (by omega) (by omega)
      rw [hrd] at hat
      exact hat) (fun e he => by
      obtain ⟨x, hx, rfl⟩ := List.mem_map.1 he
      exact Go.Proofs.Ythniclbmpeklmaa.Ju.wfJ_of (List.all_eq_true.1 hs.2 x hx))
    rw [List.length_map] at h1
    rw [Option.some.inj h] at h1
    exact h1
  · cases h

/-! ### knelllaw13_JudgeFront: function 8 -/
mutual
def knelllaw13_JudgeFront.j0 : Nat → Int → List (S50) → Int → Bool → Option (Bool)
  | 0, _, _, _, _ => none
  | k + 1, x0, x1, x2, x29 => if x29 = true then ((knelllaw13_speaks.f).bind fun t121 => (some t121)) else ((knelllaw11_Ofs.f k x1).bind fun t122 => ((judge_Judge.f t122 x0).bind fun bt125 => (if bt125.2 = 0 then (if (wrap64 ((x1.length : Int) + 1)) = 0 then (none) else (if 0 ≤ (Int.tmod (wrap64 (x2)) (wrap64 ((x1.length : Int) + 1))) then (if (Int.tmod (wrap64 (x2)) (wrap64 ((x1.length : Int) + 1))) ≤ (x1.length : Int) then ((knelllaw11_Ofs.f k (x1.take ((Int.tmod (wrap64 (x2)) (wrap64 ((x1.length : Int) + 1))) : Int).toNat)).bind fun t131 => ((judge_Judge.f t131 x0).bind fun bt134 => (if bt134.1 = (-1) then (some (bt134.2 == 0)) else (some false)))) else (none)) else (none))) else (if bt125.1 < 0 then (knelllaw13_JudgeFront.j1 k x0 x1 x2 bt125.1 bt125.2 true) else (knelllaw13_JudgeFront.j1 k x0 x1 x2 bt125.1 bt125.2 (decide (bt125.1 ≥ (x1.length : Int))))))))
def knelllaw13_JudgeFront.j1 : Nat → Int → List (S50) → Int → Int → Int → Bool → Option (Bool)
  | 0, _, _, _, _, _, _ => none
  | k + 1, x0, x1, x2, x7, x8, x49 => if x49 = true then (some false) else (if 0 ≤ (wrap64 (x7 + 1)) then (if (wrap64 (x7 + 1)) ≤ (x1.length : Int) then ((knelllaw11_Ofs.f k (x1.take ((wrap64 (x7 + 1)) : Int).toNat)).bind fun t140 => ((judge_Judge.f t140 x0).bind fun bt143 => (if bt143.1 = x7 then (knelllaw13_JudgeFront.j2 k x0 x1 x2 x7 (bt143.2 != x8)) else (knelllaw13_JudgeFront.j2 k x0 x1 x2 x7 true)))) else (none)) else (none))
def knelllaw13_JudgeFront.j2 : Nat → Int → List (S50) → Int → Int → Bool → Option (Bool)
  | 0, _, _, _, _, _ => none
  | k + 1, x0, x1, x2, x9, x68 => if x68 = true then (some false) else (if (wrap64 (x9 + 1)) = 0 then (none) else (if 0 ≤ (Int.tmod (wrap64 (x2)) (wrap64 (x9 + 1))) then (if (Int.tmod (wrap64 (x2)) (wrap64 (x9 + 1))) ≤ (x1.length : Int) then ((knelllaw11_Ofs.f k (x1.take ((Int.tmod (wrap64 (x2)) (wrap64 (x9 + 1))) : Int).toNat)).bind fun t149 => ((judge_Judge.f t149 x0).bind fun bt152 => (if bt152.1 = (-1) then (some (bt152.2 == 0)) else (some false)))) else (none)) else (none)))
end
def knelllaw13_JudgeFront.f (k : Nat) (a0 : Int) (l1 : List (S50)) (a2 : Int) : Option (Bool) := (knelllaw13_speaks.f).bind fun t120 => (if t120 = true then (if (l1.length : Int) > 60 then (knelllaw13_JudgeFront.j0 k a0 l1 a2 true) else (if a0 < 1 then (knelllaw13_JudgeFront.j0 k a0 l1 a2 true) else (knelllaw13_JudgeFront.j0 k a0 l1 a2 (decide (a0 > 64))))) else (knelllaw13_JudgeFront.j0 k a0 l1 a2 true))
theorem knelllaw13_JudgeFront.mono_l : ∀ k, (∀ y0 y1 y2 y3, LeO (knelllaw13_JudgeFront.j0 k y0 y1 y2 y3) (knelllaw13_JudgeFront.j0 (k + 1) y0 y1 y2 y3)) ∧ (∀ y0 y1 y2 y3 y4 y5, LeO (knelllaw13_JudgeFront.j1 k y0 y1 y2 y3 y4 y5) (knelllaw13_JudgeFront.j1 (k + 1) y0 y1 y2 y3 y4 y5)) ∧ (∀ y0 y1 y2 y3 y4, LeO (knelllaw13_JudgeFront.j2 k y0 y1 y2 y3 y4) (knelllaw13_JudgeFront.j2 (k + 1) y0 y1 y2 y3 y4))
  | 0 => ⟨fun _ _ _ _ r h => by simp [knelllaw13_JudgeFront.j0] at h, fun _ _ _ _ _ _ r h => by simp [knelllaw13_JudgeFront.j1] at h, fun _ _ _ _ _ r h => by simp [knelllaw13_JudgeFront.j2] at h⟩
  | k + 1 => by
    obtain ⟨ih0, ih1, ih2⟩ := knelllaw13_JudgeFront.mono_l k
    refine ⟨?_, ?_, ?_⟩
    · intro y0 y1 y2 y3
      unfold knelllaw13_JudgeFront.j0
      repeat' first
      | (with_reducible exact ih0 _ _ _ _)
      | (with_reducible exact ih1 _ _ _ _ _ _)
      | (with_reducible exact ih2 _ _ _ _ _)
      | (with_reducible exact knelllaw11_Ofs.mono _ _)
      | (with_reducible exact LeO.refl _)
      | (with_reducible exact LeO.none _)
      | (with_reducible refine LeO.ite ?_ ?_)
      | (with_reducible refine LeO.bind ?_ (fun _ => ?_))
      | exact ih0 _ _ _ _
      | exact ih1 _ _ _ _ _ _
      | exact ih2 _ _ _ _ _
      | exact knelllaw11_Ofs.mono _ _
      | exact LeO.none _
      | refine LeO.ite ?_ ?_
      | refine LeO.bind ?_ (fun _ => ?_)
    · intro y0 y1 y2 y3 y4 y5
      unfold knelllaw13_JudgeFront.j1
      repeat' first
      | (with_reducible exact ih0 _ _ _ _)
      | (with_reducible exact ih1 _ _ _ _ _ _)
      | (with_reducible exact ih2 _ _ _ _ _)
      | (with_reducible exact knelllaw11_Ofs.mono _ _)
      | (with_reducible exact LeO.refl _)
      | (with_reducible exact LeO.none _)
      | (with_reducible refine LeO.ite ?_ ?_)
      | (with_reducible refine LeO.bind ?_ (fun _ => ?_))
      | exact ih0 _ _ _ _
      | exact ih1 _ _ _ _ _ _
      | exact ih2 _ _ _ _ _
      | exact knelllaw11_Ofs.mono _ _
      | exact LeO.none _
      | refine LeO.ite ?_ ?_
      | refine LeO.bind ?_ (fun _ => ?_)
    · intro y0 y1 y2 y3 y4
      unfold knelllaw13_JudgeFront.j2
      repeat' first
      | (with_reducible exact ih0 _ _ _ _)
      | (with_reducible exact ih1 _ _ _ _ _ _)
      | (with_reducible exact ih2 _ _ _ _ _)
      | (with_reducible exact knelllaw11_Ofs.mono _ _)
      | (with_reducible exact LeO.refl _)
      | (with_reducible exact LeO.none _)
      | (with_reducible refine LeO.ite ?_ ?_)
      | (with_reducible refine LeO.bind ?_ (fun _ => ?_))
      | exact ih0 _ _ _ _
      | exact ih1 _ _ _ _ _ _
      | exact ih2 _ _ _ _ _
      | exact knelllaw11_Ofs.mono _ _
      | exact LeO.none _
      | refine LeO.ite ?_ ?_
      | refine LeO.bind ?_ (fun _ => ?_)
theorem knelllaw13_JudgeFront.mono : ∀ a0 a1 a2 k, LeO (knelllaw13_JudgeFront.f k a0 a1 a2) (knelllaw13_JudgeFront.f (k + 1) a0 a1 a2) := by
  intro a0 a1 a2 k
  obtain ⟨ih0, ih1, ih2⟩ := knelllaw13_JudgeFront.mono_l k
  unfold knelllaw13_JudgeFront.f
  repeat' first
      | (with_reducible exact ih0 _ _ _ _)
      | (with_reducible exact ih1 _ _ _ _ _ _)
      | (with_reducible exact ih2 _ _ _ _ _)
      | (with_reducible exact knelllaw11_Ofs.mono _ _)
      | (with_reducible exact LeO.refl _)
      | (with_reducible exact LeO.none _)
      | (with_reducible refine LeO.ite ?_ ?_)
      | (with_reducible refine LeO.bind ?_ (fun _ => ?_))
      | exact ih0 _ _ _ _
      | exact ih1 _ _ _ _ _ _
      | exact ih2 _ _ _ _ _
      | exact knelllaw11_Ofs.mono _ _
      | exact LeO.none _
      | refine LeO.ite ?_ ?_
      | refine LeO.bind ?_ (fun _ => ?_)
set_option maxHeartbeats 8000000 in
set_option maxRecDepth 100000 in
theorem knelllaw13_JudgeFront.calls (k : Nat) (a0 : Int) (A1 : Option Addr) (c1 : Nat) (l1 : List (S50)) (a2 : Int) (r : Bool) (w : World) (hr1 : Kd.C k50 w A1 l1.length l1) (hc1 : l1.length ≤ c1) (h : knelllaw13_JudgeFront.f k a0 l1 a2 = some r) :
    Calls Try.prog 8 #[.int .i64 a0, .slice A1 l1.length c1, .int .u8 a2] w fun e w' => e = .returned (.bool r) ∧ Below w.heap.size w w' := by
  have HR1 := Aside0.mk hr1
  have HC1 := Aside0.mk hc1
  clear hr1 hc1
  have HB := Aside0.mk (Below.refl w.heap.size w)
  have H : ((knelllaw13_speaks.f).bind fun t120 => (if t120 = true then (if (l1.length : Int) > 60 then (knelllaw13_JudgeFront.j0 k a0 l1 a2 true) else (if a0 < 1 then (knelllaw13_JudgeFront.j0 k a0 l1 a2 true) else (knelllaw13_JudgeFront.j0 k a0 l1 a2 (decide (a0 > 64))))) else (knelllaw13_JudgeFront.j0 k a0 l1 a2 true))) = some r := h
  clear h
  have HC4 := Aside0.mk H
  clear H
  go_enter Try.func8, Try.ntmps8
  go_upto_region 1 with (fail)
  go_cut [29] (fun v29 wc => ∃ (kq : Nat) (x29_3 : Bool), v29 = .bool x29_3 ∧ Aside0 (knelllaw13_JudgeFront.j0 kq a0 l1 a2 x29_3 = some r) ∧ Aside0 (kq ≤ k) ∧ Aside0 (Below w.heap.size w wc))
  case first =>
    have H := HC4.out
    clear HC4
    replace H := Option.bind_eq_some_iff.mp H
    obtain ⟨t120, A50, H⟩ := H
    replace H : (if t120 = true then (if (l1.length : Int) > 60 then (knelllaw13_JudgeFront.j0 k a0 l1 a2 true) else (if a0 < 1 then (knelllaw13_JudgeFront.j0 k a0 l1 a2 true) else (knelllaw13_JudgeFront.j0 k a0 l1 a2 (decide (a0 > 64))))) else (knelllaw13_JudgeFront.j0 k a0 l1 a2 true)) = some r := H
    have A5 := Aside0.mk A50
    clear A50
    by_cases c6 : t120 = true
    · subst c6
      have H1 : (if (l1.length : Int) > 60 then (knelllaw13_JudgeFront.j0 k a0 l1 a2 true) else (if a0 < 1 then (knelllaw13_JudgeFront.j0 k a0 l1 a2 true) else (knelllaw13_JudgeFront.j0 k a0 l1 a2 (decide (a0 > 64))))) = some r := by rw [if_pos rfl] at H; exact H
      clear H
      have H := H1
      clear H1
      by_cases c7 : (l1.length : Int) > 60
      · rw [if_pos c7] at H
        have c7b0 : decide (60 < (l1.length : Int)) = true := decide_eq_true c7
        have c7b1 : decide (60 < l1.length) = true := decide_eq_true (by omega)
        clear c7
        (first | rw [c7b0] | (simp only [i64_w, i32_w]; rw [c7b0]) | skip)
        have H' := Aside0.mk H
        clear H
        go_wp2_with (first | ((with_reducible refine gate_callee (f := 25) rfl ?_); refine goesL_ (some 15) rfl rfl Try.func25 (by kernel_rfl) rfl #[] rfl (by (try simp only [List.map_toArray, List.map_cons, List.map_nil]); first | done | rfl | (simp only [List.length_drop, List.length_take]; rfl)) ?_; (with_reducible refine (knelllaw13_speaks.calls  true _ A5.out).mono ?_); rintro e w8 ⟨rfl, hb⟩; refine ⟨_, rfl, ?_⟩; have n0_ := Aside0.mk (below_step (by repeat (first | (with_reducible first | exact HB.out | apply below_alloc | apply pw_below_drewN | apply below_drew1) | exact HB.out)) hb); clear HB; have HB := n0_; clear n0_; (try clear hb); (try clear hb2); (try clear hk); (try clear hi)))
        go_meet
        case rel => exact ⟨_, (true), (by first | rfl | (simp; done) | (simp [*]; done)), H', ⟨by first | omega | exact Nat.le_refl _⟩, ⟨by repeat (first | (with_reducible first | exact HB.out | apply below_alloc | apply pw_below_drewN | apply below_drew1) | exact HB.out)⟩⟩
      · rw [if_neg c7] at H
        have c7b0 : decide (60 < (l1.length : Int)) = false := decide_eq_false c7
        have c7b1 : decide (60 < l1.length) = false := decide_eq_false (by omega)
        clear c7
        (first | rw [c7b0] | (simp only [i64_w, i32_w]; rw [c7b0]) | skip)
        by_cases c9 : a0 < 1
        · rw [if_pos c9] at H
          have c9b0 : decide (a0 < 1) = true := decide_eq_true c9
          clear c9
          have H' := Aside0.mk H
          clear H
          go_wp2_with (first | ((with_reducible refine gate_callee (f := 25) rfl ?_); refine goesL_ (some 15) rfl rfl Try.func25 (by kernel_rfl) rfl #[] rfl (by (try simp only [List.map_toArray, List.map_cons, List.map_nil]); first | done | rfl | (simp only [List.length_drop, List.length_take]; rfl)) ?_; (with_reducible refine (knelllaw13_speaks.calls  true _ A5.out).mono ?_); rintro e w10 ⟨rfl, hb⟩; refine ⟨_, rfl, ?_⟩; have n0_ := Aside0.mk (below_step (by repeat (first | (with_reducible first | exact HB.out | apply below_alloc | apply pw_below_drewN | apply below_drew1) | exact HB.out)) hb); clear HB; have HB := n0_; clear n0_; (try clear hb); (try clear hb2); (try clear hk); (try clear hi)))
          go_meet
          case rel => exact ⟨_, (true), (by first | rfl | (simp; done) | (simp [*]; done)), H', ⟨by first | omega | exact Nat.le_refl _⟩, ⟨by repeat (first | (with_reducible first | exact HB.out | apply below_alloc | apply pw_below_drewN | apply below_drew1) | exact HB.out)⟩⟩
        · rw [if_neg c9] at H
          have c9b0 : decide (a0 < 1) = false := decide_eq_false c9
          clear c9
          have H' := Aside0.mk H
          clear H
          go_wp2_with (first | ((with_reducible refine gate_callee (f := 25) rfl ?_); refine goesL_ (some 15) rfl rfl Try.func25 (by kernel_rfl) rfl #[] rfl (by (try simp only [List.map_toArray, List.map_cons, List.map_nil]); first | done | rfl | (simp only [List.length_drop, List.length_take]; rfl)) ?_; (with_reducible refine (knelllaw13_speaks.calls  true _ A5.out).mono ?_); rintro e w11 ⟨rfl, hb⟩; refine ⟨_, rfl, ?_⟩; have n0_ := Aside0.mk (below_step (by repeat (first | (with_reducible first | exact HB.out | apply below_alloc | apply pw_below_drewN | apply below_drew1) | exact HB.out)) hb); clear HB; have HB := n0_; clear n0_; (try clear hb); (try clear hb2); (try clear hk); (try clear hi)))
          go_meet
          case rel => exact ⟨_, (decide (a0 > 64)), (by first | rfl | (simp; done) | (simp [*]; done)), H', ⟨by first | omega | exact Nat.le_refl _⟩, ⟨by repeat (first | (with_reducible first | exact HB.out | apply below_alloc | apply pw_below_drewN | apply below_drew1) | exact HB.out)⟩⟩
    · replace c6 := Bool.eq_false_iff.mpr c6
      subst c6
      have H1 : (knelllaw13_JudgeFront.j0 k a0 l1 a2 true) = some r := by rw [if_neg (show ¬ (false = true) by decide)] at H; exact H
      clear H
      have H := H1
      clear H1
      have H' := Aside0.mk H
      clear H
      go_wp2_with (first | ((with_reducible refine gate_callee (f := 25) rfl ?_); refine goesL_ (some 15) rfl rfl Try.func25 (by kernel_rfl) rfl #[] rfl (by (try simp only [List.map_toArray, List.map_cons, List.map_nil]); first | done | rfl | (simp only [List.length_drop, List.length_take]; rfl)) ?_; (with_reducible refine (knelllaw13_speaks.calls  false _ A5.out).mono ?_); rintro e w12 ⟨rfl, hb⟩; refine ⟨_, rfl, ?_⟩; have n0_ := Aside0.mk (below_step (by repeat (first | (with_reducible first | exact HB.out | apply below_alloc | apply pw_below_drewN | apply below_drew1) | exact HB.out)) hb); clear HB; have HB := n0_; clear n0_; (try clear hb); (try clear hb2); (try clear hk); (try clear hi)))
      go_meet
      case rel => exact ⟨_, (true), (by first | rfl | (simp; done) | (simp [*]; done)), H', ⟨by first | omega | exact Nat.le_refl _⟩, ⟨by repeat (first | (with_reducible first | exact HB.out | apply below_alloc | apply pw_below_drewN | apply below_drew1) | exact HB.out)⟩⟩
  case rest =>
    clear HC4
    try clear c1
    try clear c2
    try clear p2
    try clear c6
    try clear c7
    try clear c7b0
    try clear c7b1
    try clear c8
    try clear c9
    try clear c9b0
    obtain ⟨kq, x29_3, rfl, HA, HJ3, HB⟩ := hcut
    cases kq with
    | zero => exact absurd HA.out (by simp [knelllaw13_JudgeFront.j0])
    | succ kj3 =>
      have H := HA.out
      clear HA
      simp only [knelllaw13_JudgeFront.j0] at H
      by_cases c13 : x29_3 = true
      · subst c13
        have H1 : ((knelllaw13_speaks.f).bind fun t121 => (some t121)) = some r := by rw [if_pos rfl] at H; exact H
        clear H
        have H := H1
        clear H1
        replace H := Option.bind_eq_some_iff.mp H
        obtain ⟨t121, A140, H⟩ := H
        replace H : (some t121) = some r := H
        have A14 := Aside0.mk A140
        clear A140
        obtain rfl := Option.some.inj H
        go_wp2_with (first | ((with_reducible refine gate_callee (f := 25) rfl ?_); refine goesL_ (some 30) rfl rfl Try.func25 (by kernel_rfl) rfl #[] rfl (by (try simp only [List.map_toArray, List.map_cons, List.map_nil]); first | done | rfl | (simp only [List.length_drop, List.length_take]; rfl)) ?_; (with_reducible refine (knelllaw13_speaks.calls  t121 _ A14.out).mono ?_); rintro e w15 ⟨rfl, hb⟩; refine ⟨_, rfl, ?_⟩; have n0_ := Aside0.mk (below_step (by repeat (first | (with_reducible first | exact HB.out | apply below_alloc | apply pw_below_drewN | apply below_drew1) | exact HB.out)) hb); clear HB; have HB := n0_; clear n0_; (try clear hb); (try clear hb2); (try clear hk); (try clear hi)))
        go_ret
        exact ⟨by first | rfl | (simp [errW_none, errW_some] <;> rfl) | (simp [*, errW_none, errW_some] <;> rfl), by repeat (first | (with_reducible first | exact HB.out | apply below_alloc | apply pw_below_drewN | apply below_drew1) | exact HB.out)⟩
      · replace c13 := Bool.eq_false_iff.mpr c13
        subst c13
        have H1 : ((knelllaw11_Ofs.f kj3 l1).bind fun t122 => ((judge_Judge.f t122 a0).bind fun bt125 => (if bt125.2 = 0 then (if (wrap64 ((l1.length : Int) + 1)) = 0 then (none) else (if 0 ≤ (Int.tmod (wrap64 (a2)) (wrap64 ((l1.length : Int) + 1))) then (if (Int.tmod (wrap64 (a2)) (wrap64 ((l1.length : Int) + 1))) ≤ (l1.length : Int) then ((knelllaw11_Ofs.f kj3 (l1.take ((Int.tmod (wrap64 (a2)) (wrap64 ((l1.length : Int) + 1))) : Int).toNat)).bind fun t131 => ((judge_Judge.f t131 a0).bind fun bt134 => (if bt134.1 = (-1) then (some (bt134.2 == 0)) else (some false)))) else (none)) else (none))) else (if bt125.1 < 0 then (knelllaw13_JudgeFront.j1 kj3 a0 l1 a2 bt125.1 bt125.2 true) else (knelllaw13_JudgeFront.j1 kj3 a0 l1 a2 bt125.1 bt125.2 (decide (bt125.1 ≥ (l1.length : Int)))))))) = some r := by rw [if_neg (show ¬ (false = true) by decide)] at H; exact H
        clear H
        have H := H1
        clear H1
        replace H := Option.bind_eq_some_iff.mp H
        obtain ⟨t122, A160, H⟩ := H
        replace H : ((judge_Judge.f t122 a0).bind fun bt125 => (if bt125.2 = 0 then (if (wrap64 ((l1.length : Int) + 1)) = 0 then (none) else (if 0 ≤ (Int.tmod (wrap64 (a2)) (wrap64 ((l1.length : Int) + 1))) then (if (Int.tmod (wrap64 (a2)) (wrap64 ((l1.length : Int) + 1))) ≤ (l1.length : Int) then ((knelllaw11_Ofs.f kj3 (l1.take ((Int.tmod (wrap64 (a2)) (wrap64 ((l1.length : Int) + 1))) : Int).toNat)).bind fun t131 => ((judge_Judge.f t131 a0).bind fun bt134 => (if bt134.1 = (-1) then (some (bt134.2 == 0)) else (some false)))) else (none)) else (none))) else (if bt125.1 < 0 then (knelllaw13_JudgeFront.j1 kj3 a0 l1 a2 bt125.1 bt125.2 true) else (knelllaw13_JudgeFront.j1 kj3 a0 l1 a2 bt125.1 bt125.2 (decide (bt125.1 ≥ (l1.length : Int))))))) = some r := H
        have A16 := Aside0.mk A160
        clear A160
        replace H := Option.bind_eq_some_iff.mp H
        obtain ⟨⟨t125, t126⟩, A170, H⟩ := H
        replace H : (if t126 = 0 then (if (wrap64 ((l1.length : Int) + 1)) = 0 then (none) else (if 0 ≤ (Int.tmod (wrap64 (a2)) (wrap64 ((l1.length : Int) + 1))) then (if (Int.tmod (wrap64 (a2)) (wrap64 ((l1.length : Int) + 1))) ≤ (l1.length : Int) then ((knelllaw11_Ofs.f kj3 (l1.take ((Int.tmod (wrap64 (a2)) (wrap64 ((l1.length : Int) + 1))) : Int).toNat)).bind fun t131 => ((judge_Judge.f t131 a0).bind fun bt134 => (if bt134.1 = (-1) then (some (bt134.2 == 0)) else (some false)))) else (none)) else (none))) else (if t125 < 0 then (knelllaw13_JudgeFront.j1 kj3 a0 l1 a2 t125 t126 true) else (knelllaw13_JudgeFront.j1 kj3 a0 l1 a2 t125 t126 (decide (t125 ≥ (l1.length : Int)))))) = some r := H
        have A17 := Aside0.mk A170
        clear A170
        by_cases c18 : t126 = 0
        · rw [if_pos c18] at H
          have c18b0 : (t126 == 0) = true := beq_iff_eq.mpr c18
          have c18b1 : (t126 != 0) = false := bne_eq_false_iff_eq.mpr c18
          clear c18
          by_cases c19 : (wrap64 ((l1.length : Int) + 1)) = 0
          · rw [if_pos c19] at H
            exact absurd H (by simp)
          · rw [if_neg c19] at H
            have c19b0 : ((wrap64 ((l1.length : Int) + 1)) == 0) = false := beq_eq_false_iff_ne.mpr c19
            have c19b1 : ((wrap64 ((l1.length : Int) + 1)) != 0) = true := bne_iff_ne.mpr c19
            obtain ⟨ji20, hji20⟩ : ∃ j_ : Int, (Int.tmod (wrap64 (a2)) (wrap64 ((l1.length : Int) + 1))) = j_ := ⟨_, rfl⟩
            replace H : (if 0 ≤ (ji20) then (if (ji20) ≤ (l1.length : Int) then ((knelllaw11_Ofs.f kj3 (l1.take ((ji20) : Int).toNat)).bind fun t131 => ((judge_Judge.f t131 a0).bind fun bt134 => (if bt134.1 = (-1) then (some (bt134.2 == 0)) else (some false)))) else (none)) else (none)) = some r := by first | (rw [hji20] at H; exact H) | (simp only [hji20] at H ⊢; exact H)
            (try rw [hji20] at A16)
            (try rw [hji20] at A17)
            by_cases c21 : 0 ≤ (ji20)
            · rw [if_pos c21] at H
              have c21b0 := eq_true c21
              have c21b1 : decide (0 ≤ (ji20)) = true := decide_eq_true c21
              clear c21
              by_cases c22 : (ji20) ≤ (l1.length : Int)
              · rw [if_pos c22] at H
                have c22b0 := eq_true c22
                have c22b1 : decide ((ji20) ≤ (l1.length : Int)) = true := decide_eq_true c22
                clear c22
                obtain ⟨y127, hy127⟩ : ∃ y_ : List (S50), y_ = (l1.take ((ji20) : Int).toNat) := ⟨_, rfl⟩
                replace H : ((knelllaw11_Ofs.f kj3 y127).bind fun t131 => ((judge_Judge.f t131 a0).bind fun bt134 => (if bt134.1 = (-1) then (some (bt134.2 == 0)) else (some false)))) = some r := by first | (rw [hy127]; with_reducible exact H) | (have H2_ := (Option.bind_some _ _).symm.trans H; rw [hy127]; with_reducible exact H2_) | (have H2_ := (Option.bind_some _ _).symm.trans H; with_reducible exact H2_) | with_reducible exact H | (rw [hy127]; exact H) | exact H
                have Ny127 := Aside0.mk hy127
                clear hy127
                replace H := Option.bind_eq_some_iff.mp H
                obtain ⟨t131, A230, H⟩ := H
                replace H : ((judge_Judge.f t131 a0).bind fun bt134 => (if bt134.1 = (-1) then (some (bt134.2 == 0)) else (some false))) = some r := H
                have A23 := Aside0.mk A230
                clear A230
                replace H := Option.bind_eq_some_iff.mp H
                obtain ⟨⟨t134, t135⟩, A240, H⟩ := H
                replace H : (if t134 = (-1) then (some (t135 == 0)) else (some false)) = some r := H
                have A24 := Aside0.mk A240
                clear A240
                by_cases c25 : t134 = (-1)
                · rw [if_pos c25] at H
                  have c25b0 : (t134 == (-1)) = true := beq_iff_eq.mpr c25
                  have c25b1 : (t134 != (-1)) = false := bne_eq_false_iff_eq.mpr c25
                  clear c25
                  obtain rfl := Option.some.inj H
                  go_wp2_with (first | ((with_reducible refine gate_callee (f := 16) rfl ?_); refine goesL_ (some 33) rfl rfl Try.func16 (by kernel_rfl) rfl #[.slice A1 l1.length c1] rfl (by (try simp only [List.map_toArray, List.map_cons, List.map_nil]); first | done | rfl | (simp only [List.length_drop, List.length_take]; rfl)) ?_; (with_reducible refine (knelllaw11_Ofs.calls kj3 _ _ l1 t122 _ ?side1 ?side2 A16.out).mono ?_); (case side1 => repeat (first | exact (Kd.C_below HR1.out HB.out) | (with_reducible refine Kd.C_alloc ?_ _) | (with_reducible refine Kd.C_drewN ?_ _) | (with_reducible refine Kd.C_drew ?_))); (case side2 => exact HC1.out); rintro e w26 ⟨v123, rfl, ho0, hb⟩; refine ⟨_, rfl, ?_⟩; have n0_ := Aside0.mk (Kd.R_lower ho0 (below_size (by repeat (first | (with_reducible first | exact HB.out | apply below_alloc | apply pw_below_drewN | apply below_drew1) | exact HB.out)))); have n1_ := Aside0.mk (below_step (by repeat (first | (with_reducible first | exact HB.out | apply below_alloc | apply pw_below_drewN | apply below_drew1) | exact HB.out)) hb); clear HB; have HO124 := n0_; have HB := n1_; clear n0_ n1_; (try clear hb); (try clear hb2); (try clear hk); (try clear hi); (try clear ho0); obtain ⟨Ao27, co27, eo27⟩ := Kd.R_slice HO124.out; subst eo27) | ((with_reducible refine gate_callee (f := 37) rfl ?_); refine goesL_ (some 35) rfl rfl Try.func37 (by kernel_rfl) rfl #[.slice Ao27 t122.length co27, .int .i64 a0] rfl (by (try simp only [List.map_toArray, List.map_cons, List.map_nil]); first | done | rfl | (simp only [List.length_drop, List.length_take]; rfl)) ?_; (with_reducible refine (judge_Judge.calls _ _ t122 a0 t125 t126 _ ?side1 ?side2 A17.out).mono ?_); (case side1 => repeat (first | exact (Kd.R_reads' HO124.out).2.2 | (with_reducible refine Kd.C_alloc ?_ _) | (with_reducible refine Kd.C_drewN ?_ _) | (with_reducible refine Kd.C_drew ?_))); (case side2 => exact (Kd.R_reads' HO124.out).2.1); rintro e w28 ⟨rfl, hb⟩; refine ⟨_, rfl, ?_⟩; have n0_ := Aside0.mk (Kd.R_below (by (with_reducible repeat (first | apply Kd.R_alloc | apply Kd.R_drewN | apply Kd.R_drew)); exact HO124.out) hb); have n1_ := Aside0.mk (below_step (by repeat (first | (with_reducible first | exact HB.out | apply below_alloc | apply pw_below_drewN | apply below_drew1) | exact HB.out)) hb); clear HO124; clear HB; have HO124 := n0_; have HB := n1_; clear n0_ n1_; (try clear hb); (try clear hb2); (try clear hk); (try clear hi); have q29 : ((ji20) : Int) ≤ ((l1.length : Int) : Int) := of_decide_eq_true (by first | (with_reducible assumption) | assumption); obtain ⟨i029, hi029, _, hsz29, _⟩ := info_parts info50; have hroom29 : l1.length ≤ c1 := HC1.out; have hC29 : Kd.C k50 _ A1 l1.length l1 := HR1.out; have hcut29 := cut_to (P := Try.prog) 22 50 .i64 Try.underlying22 hi029 A1 l1.length c1 (ji20) (of_decide_eq_true (by first | (with_reducible assumption) | assumption)) q29 hroom29; have hr29 := Kd.C_take (m := ((ji20) : Int).toNat) hC29 (by omega); have hy29 : y127.length = ((ji20) : Int).toNat := (by rw [Ny127.out, List.length_take]; omega); rw [← Ny127.out] at hr29; rw [← hy29] at hcut29; have HR130 := Aside0.mk hr29; have HC130 := Aside0.mk (show y127.length ≤ c1 from by omega); clear hr29 hC29 hroom29 hi029 hsz29; have KY29 := Aside0.mk hy29; clear hy29; replace q29 := eq_true q29) | ((with_reducible refine gate_callee (f := 16) rfl ?_); refine goesL_ (some 78) rfl rfl Try.func16 (by kernel_rfl) rfl #[.slice A1 y127.length c1] rfl (by (try simp only [List.map_toArray, List.map_cons, List.map_nil]); first | done | rfl | (simp only [List.length_drop, List.length_take]; rfl)) ?_; (with_reducible refine (knelllaw11_Ofs.calls kj3 _ _ y127 t131 _ ?side1 ?side2 A23.out).mono ?_); (case side1 => repeat (first | exact (Kd.C_below HR130.out HB.out) | (with_reducible refine Kd.C_alloc ?_ _) | (with_reducible refine Kd.C_drewN ?_ _) | (with_reducible refine Kd.C_drew ?_))); (case side2 => exact HC130.out); rintro e w30 ⟨v132, rfl, ho0, hb⟩; refine ⟨_, rfl, ?_⟩; have n0_ := Aside0.mk (Kd.R_elder' (by (with_reducible repeat (first | apply Kd.R_alloc | apply Kd.R_drewN | apply Kd.R_drew)); exact HO124.out) (Kd.R_base ho0) hb); have n1_ := Aside0.mk (Kd.R_lower (Kd.R_new' ho0 (Kd.R_lt (by (with_reducible repeat (first | apply Kd.R_alloc | apply Kd.R_drewN | apply Kd.R_drew)); exact HO124.out))) (below_size (by repeat (first | (with_reducible first | exact HB.out | apply below_alloc | apply pw_below_drewN | apply below_drew1) | exact HB.out)))); have n2_ := Aside0.mk (below_step (by repeat (first | (with_reducible first | exact HB.out | apply below_alloc | apply pw_below_drewN | apply below_drew1) | exact HB.out)) hb); clear HO124; clear HB; have HO124 := n0_; have HO133 := n1_; have HB := n2_; clear n0_ n1_ n2_; (try clear hb); (try clear hb2); (try clear hk); (try clear hi); (try clear ho0); obtain ⟨Ao31, co31, eo31⟩ := Kd.R_slice HO133.out; subst eo31) | ((with_reducible refine gate_callee (f := 37) rfl ?_); refine goesL_ (some 80) rfl rfl Try.func37 (by kernel_rfl) rfl #[.slice Ao31 t131.length co31, .int .i64 a0] rfl (by (try simp only [List.map_toArray, List.map_cons, List.map_nil]); first | done | rfl | (simp only [List.length_drop, List.length_take]; rfl)) ?_; (with_reducible refine (judge_Judge.calls _ _ t131 a0 t134 t135 _ ?side1 ?side2 A24.out).mono ?_); (case side1 => repeat (first | exact (Kd.R_reads' HO133.out).2.2 | (with_reducible refine Kd.C_alloc ?_ _) | (with_reducible refine Kd.C_drewN ?_ _) | (with_reducible refine Kd.C_drew ?_))); (case side2 => exact (Kd.R_reads' HO133.out).2.1); rintro e w32 ⟨rfl, hb⟩; refine ⟨_, rfl, ?_⟩; have n0_ := Aside0.mk (Kd.R_below (by (with_reducible repeat (first | apply Kd.R_alloc | apply Kd.R_drewN | apply Kd.R_drew)); exact HO124.out) hb); have n1_ := Aside0.mk (Kd.R_below (by (with_reducible repeat (first | apply Kd.R_alloc | apply Kd.R_drewN | apply Kd.R_drew)); exact HO133.out) hb); have n2_ := Aside0.mk (below_step (by repeat (first | (with_reducible first | exact HB.out | apply below_alloc | apply pw_below_drewN | apply below_drew1) | exact HB.out)) hb); clear HO124; clear HO133; clear HB; have HO124 := n0_; have HO133 := n1_; have HB := n2_; clear n0_ n1_ n2_; (try clear hb); (try clear hb2); (try clear hk); (try clear hi)))
                  go_ret
                  exact ⟨by first | rfl | (simp [errW_none, errW_some] <;> rfl) | (simp only [← hji20]; first | rfl | (simp [errW_none, errW_some] <;> rfl)) | (simp [*, errW_none, errW_some] <;> rfl), by repeat (first | (with_reducible first | exact HB.out | apply below_alloc | apply pw_below_drewN | apply below_drew1) | exact HB.out)⟩
                · rw [if_neg c25] at H
                  have c25b0 : (t134 == (-1)) = false := beq_eq_false_iff_ne.mpr c25
                  have c25b1 : (t134 != (-1)) = true := bne_iff_ne.mpr c25
                  obtain rfl := Option.some.inj H
                  go_wp2_with (first | ((with_reducible refine gate_callee (f := 16) rfl ?_); refine goesL_ (some 33) rfl rfl Try.func16 (by kernel_rfl) rfl #[.slice A1 l1.length c1] rfl (by (try simp only [List.map_toArray, List.map_cons, List.map_nil]); first | done | rfl | (simp only [List.length_drop, List.length_take]; rfl)) ?_; (with_reducible refine (knelllaw11_Ofs.calls kj3 _ _ l1 t122 _ ?side1 ?side2 A16.out).mono ?_); (case side1 => repeat (first | exact (Kd.C_below HR1.out HB.out) | (with_reducible refine Kd.C_alloc ?_ _) | (with_reducible refine Kd.C_drewN ?_ _) | (with_reducible refine Kd.C_drew ?_))); (case side2 => exact HC1.out); rintro e w33 ⟨v123, rfl, ho0, hb⟩; refine ⟨_, rfl, ?_⟩; have n0_ := Aside0.mk (Kd.R_lower ho0 (below_size (by repeat (first | (with_reducible first | exact HB.out | apply below_alloc | apply pw_below_drewN | apply below_drew1) | exact HB.out)))); have n1_ := Aside0.mk (below_step (by repeat (first | (with_reducible first | exact HB.out | apply below_alloc | apply pw_below_drewN | apply below_drew1) | exact HB.out)) hb); clear HB; have HO124 := n0_; have HB := n1_; clear n0_ n1_; (try clear hb); (try clear hb2); (try clear hk); (try clear hi); (try clear ho0); obtain ⟨Ao34, co34, eo34⟩ := Kd.R_slice HO124.out; subst eo34) | ((with_reducible refine gate_callee (f := 37) rfl ?_); refine goesL_ (some 35) rfl rfl Try.func37 (by kernel_rfl) rfl #[.slice Ao34 t122.length co34, .int .i64 a0] rfl (by (try simp only [List.map_toArray, List.map_cons, List.map_nil]); first | done | rfl | (simp only [List.length_drop, List.length_take]; rfl)) ?_; (with_reducible refine (judge_Judge.calls _ _ t122 a0 t125 t126 _ ?side1 ?side2 A17.out).mono ?_); (case side1 => repeat (first | exact (Kd.R_reads' HO124.out).2.2 | (with_reducible refine Kd.C_alloc ?_ _) | (with_reducible refine Kd.C_drewN ?_ _) | (with_reducible refine Kd.C_drew ?_))); (case side2 => exact (Kd.R_reads' HO124.out).2.1); rintro e w35 ⟨rfl, hb⟩; refine ⟨_, rfl, ?_⟩; have n0_ := Aside0.mk (Kd.R_below (by (with_reducible repeat (first | apply Kd.R_alloc | apply Kd.R_drewN | apply Kd.R_drew)); exact HO124.out) hb); have n1_ := Aside0.mk (below_step (by repeat (first | (with_reducible first | exact HB.out | apply below_alloc | apply pw_below_drewN | apply below_drew1) | exact HB.out)) hb); clear HO124; clear HB; have HO124 := n0_; have HB := n1_; clear n0_ n1_; (try clear hb); (try clear hb2); (try clear hk); (try clear hi); have q36 : ((ji20) : Int) ≤ ((l1.length : Int) : Int) := of_decide_eq_true (by first | (with_reducible assumption) | assumption); obtain ⟨i036, hi036, _, hsz36, _⟩ := info_parts info50; have hroom36 : l1.length ≤ c1 := HC1.out; have hC36 : Kd.C k50 _ A1 l1.length l1 := HR1.out; have hcut36 := cut_to (P := Try.prog) 22 50 .i64 Try.underlying22 hi036 A1 l1.length c1 (ji20) (of_decide_eq_true (by first | (with_reducible assumption) | assumption)) q36 hroom36; have hr36 := Kd.C_take (m := ((ji20) : Int).toNat) hC36 (by omega); have hy36 : y127.length = ((ji20) : Int).toNat := (by rw [Ny127.out, List.length_take]; omega); rw [← Ny127.out] at hr36; rw [← hy36] at hcut36; have HR130 := Aside0.mk hr36; have HC130 := Aside0.mk (show y127.length ≤ c1 from by omega); clear hr36 hC36 hroom36 hi036 hsz36; have KY36 := Aside0.mk hy36; clear hy36; replace q36 := eq_true q36) | ((with_reducible refine gate_callee (f := 16) rfl ?_); refine goesL_ (some 78) rfl rfl Try.func16 (by kernel_rfl) rfl #[.slice A1 y127.length c1] rfl (by (try simp only [List.map_toArray, List.map_cons, List.map_nil]); first | done | rfl | (simp only [List.length_drop, List.length_take]; rfl)) ?_; (with_reducible refine (knelllaw11_Ofs.calls kj3 _ _ y127 t131 _ ?side1 ?side2 A23.out).mono ?_); (case side1 => repeat (first | exact (Kd.C_below HR130.out HB.out) | (with_reducible refine Kd.C_alloc ?_ _) | (with_reducible refine Kd.C_drewN ?_ _) | (with_reducible refine Kd.C_drew ?_))); (case side2 => exact HC130.out); rintro e w37 ⟨v132, rfl, ho0, hb⟩; refine ⟨_, rfl, ?_⟩; have n0_ := Aside0.mk (Kd.R_elder' (by (with_reducible repeat (first | apply Kd.R_alloc | apply Kd.R_drewN | apply Kd.R_drew)); exact HO124.out) (Kd.R_base ho0) hb); have n1_ := Aside0.mk (Kd.R_lower (Kd.R_new' ho0 (Kd.R_lt (by (with_reducible repeat (first | apply Kd.R_alloc | apply Kd.R_drewN | apply Kd.R_drew)); exact HO124.out))) (below_size (by repeat (first | (with_reducible first | exact HB.out | apply below_alloc | apply pw_below_drewN | apply below_drew1) | exact HB.out)))); have n2_ := Aside0.mk (below_step (by repeat (first | (with_reducible first | exact HB.out | apply below_alloc | apply pw_below_drewN | apply below_drew1) | exact HB.out)) hb); clear HO124; clear HB; have HO124 := n0_; have HO133 := n1_; have HB := n2_; clear n0_ n1_ n2_; (try clear hb); (try clear hb2); (try clear hk); (try clear hi); (try clear ho0); obtain ⟨Ao38, co38, eo38⟩ := Kd.R_slice HO133.out; subst eo38) | ((with_reducible refine gate_callee (f := 37) rfl ?_); refine goesL_ (some 80) rfl rfl Try.func37 (by kernel_rfl) rfl #[.slice Ao38 t131.length co38, .int .i64 a0] rfl (by (try simp only [List.map_toArray, List.map_cons, List.map_nil]); first | done | rfl | (simp only [List.length_drop, List.length_take]; rfl)) ?_; (with_reducible refine (judge_Judge.calls _ _ t131 a0 t134 t135 _ ?side1 ?side2 A24.out).mono ?_); (case side1 => repeat (first | exact (Kd.R_reads' HO133.out).2.2 | (with_reducible refine Kd.C_alloc ?_ _) | (with_reducible refine Kd.C_drewN ?_ _) | (with_reducible refine Kd.C_drew ?_))); (case side2 => exact (Kd.R_reads' HO133.out).2.1); rintro e w39 ⟨rfl, hb⟩; refine ⟨_, rfl, ?_⟩; have n0_ := Aside0.mk (Kd.R_below (by (with_reducible repeat (first | apply Kd.R_alloc | apply Kd.R_drewN | apply Kd.R_drew)); exact HO124.out) hb); have n1_ := Aside0.mk (Kd.R_below (by (with_reducible repeat (first | apply Kd.R_alloc | apply Kd.R_drewN | apply Kd.R_drew)); exact HO133.out) hb); have n2_ := Aside0.mk (below_step (by repeat (first | (with_reducible first | exact HB.out | apply below_alloc | apply pw_below_drewN | apply below_drew1) | exact HB.out)) hb); clear HO124; clear HO133; clear HB; have HO124 := n0_; have HO133 := n1_; have HB := n2_; clear n0_ n1_ n2_; (try clear hb); (try clear hb2); (try clear hk); (try clear hi)))
                  go_ret
                  exact ⟨by first | rfl | (simp [errW_none, errW_some] <;> rfl) | (simp only [← hji20]; first | rfl | (simp [errW_none, errW_some] <;> rfl)) | (simp [*, errW_none, errW_some] <;> rfl), by repeat (first | (with_reducible first | exact HB.out | apply below_alloc | apply pw_below_drewN | apply below_drew1) | exact HB.out)⟩
              · rw [if_neg c22] at H
                exact absurd H (by simp)
            · rw [if_neg c21] at H
              exact absurd H (by simp)
        · rw [if_neg c18] at H
          have c18b0 : (t126 == 0) = false := beq_eq_false_iff_ne.mpr c18
          have c18b1 : (t126 != 0) = true := bne_iff_ne.mpr c18
          have HC40 := Aside0.mk H
          clear H
          go_upto_region 6 with (first | ((with_reducible refine gate_callee (f := 16) rfl ?_); refine goesL_ (some 33) rfl rfl Try.func16 (by kernel_rfl) rfl #[.slice A1 l1.length c1] rfl (by (try simp only [List.map_toArray, List.map_cons, List.map_nil]); first | done | rfl | (simp only [List.length_drop, List.length_take]; rfl)) ?_; (with_reducible refine (knelllaw11_Ofs.calls kj3 _ _ l1 t122 _ ?side1 ?side2 A16.out).mono ?_); (case side1 => repeat (first | exact (Kd.C_below HR1.out HB.out) | (with_reducible refine Kd.C_alloc ?_ _) | (with_reducible refine Kd.C_drewN ?_ _) | (with_reducible refine Kd.C_drew ?_))); (case side2 => exact HC1.out); rintro e w41 ⟨v123, rfl, ho0, hb⟩; refine ⟨_, rfl, ?_⟩; have n0_ := Aside0.mk (Kd.R_lower ho0 (below_size (by repeat (first | (with_reducible first | exact HB.out | apply below_alloc | apply pw_below_drewN | apply below_drew1) | exact HB.out)))); have n1_ := Aside0.mk (below_step (by repeat (first | (with_reducible first | exact HB.out | apply below_alloc | apply pw_below_drewN | apply below_drew1) | exact HB.out)) hb); clear HB; have HO124 := n0_; have HB := n1_; clear n0_ n1_; (try clear hb); (try clear hb2); (try clear hk); (try clear hi); (try clear ho0); obtain ⟨Ao42, co42, eo42⟩ := Kd.R_slice HO124.out; subst eo42) | ((with_reducible refine gate_callee (f := 37) rfl ?_); refine goesL_ (some 35) rfl rfl Try.func37 (by kernel_rfl) rfl #[.slice Ao42 t122.length co42, .int .i64 a0] rfl (by (try simp only [List.map_toArray, List.map_cons, List.map_nil]); first | done | rfl | (simp only [List.length_drop, List.length_take]; rfl)) ?_; (with_reducible refine (judge_Judge.calls _ _ t122 a0 t125 t126 _ ?side1 ?side2 A17.out).mono ?_); (case side1 => repeat (first | exact (Kd.R_reads' HO124.out).2.2 | (with_reducible refine Kd.C_alloc ?_ _) | (with_reducible refine Kd.C_drewN ?_ _) | (with_reducible refine Kd.C_drew ?_))); (case side2 => exact (Kd.R_reads' HO124.out).2.1); rintro e w43 ⟨rfl, hb⟩; refine ⟨_, rfl, ?_⟩; have n0_ := Aside0.mk (Kd.R_below (by (with_reducible repeat (first | apply Kd.R_alloc | apply Kd.R_drewN | apply Kd.R_drew)); exact HO124.out) hb); have n1_ := Aside0.mk (below_step (by repeat (first | (with_reducible first | exact HB.out | apply below_alloc | apply pw_below_drewN | apply below_drew1) | exact HB.out)) hb); clear HO124; clear HB; have HO124 := n0_; have HB := n1_; clear n0_ n1_; (try clear hb); (try clear hb2); (try clear hk); (try clear hi)))
          (try simp only [Act.put, List.setIfInBounds_toArray, List.set_cons_zero, List.set_cons_succ])
          go_cut [49] (fun v49 wc => ∃ (kq : Nat) (x49_39 : Bool), v49 = .bool x49_39 ∧ Aside0 (knelllaw13_JudgeFront.j1 kq a0 l1 a2 t125 t126 x49_39 = some r) ∧ Aside0 (kq ≤ kj3) ∧ Aside0 (Below w.heap.size w wc))
          case first =>
            have H := HC40.out
            clear HC40
            by_cases c44 : t125 < 0
            · rw [if_pos c44] at H
              have c44b0 : decide (t125 < 0) = true := decide_eq_true c44
              clear c44
              (first | rw [c44b0] | (simp only [i64_w, i32_w]; rw [c44b0]) | skip)
              have H' := Aside0.mk H
              clear H
              go_wp2
              go_meet
              case rel => exact ⟨_, (true), (by first | rfl | (simp; done) | (simp [*]; done)), H', ⟨by have := HJ3.out; first | omega | exact Nat.le_refl _⟩, ⟨by repeat (first | (with_reducible first | exact HB.out | apply below_alloc | apply pw_below_drewN | apply below_drew1) | exact HB.out)⟩⟩
            · rw [if_neg c44] at H
              have c44b0 : decide (t125 < 0) = false := decide_eq_false c44
              clear c44
              (first | rw [c44b0] | (simp only [i64_w, i32_w]; rw [c44b0]) | skip)
              have H' := Aside0.mk H
              clear H
              go_wp2
              go_meet
              case rel => exact ⟨_, (decide (t125 ≥ (l1.length : Int))), (by first | rfl | (simp; done) | (simp [*]; done)), H', ⟨by have := HJ3.out; first | omega | exact Nat.le_refl _⟩, ⟨by repeat (first | (with_reducible first | exact HB.out | apply below_alloc | apply pw_below_drewN | apply below_drew1) | exact HB.out)⟩⟩
          case rest =>
            clear HC40
            try clear c1
            try clear c2
            try clear p2
            try clear q2
            try clear c3
            try clear q3
            try clear c4
            try clear c6
            try clear p6
            try clear c7
            try clear c7b0
            try clear c7b1
            try clear c8
            try clear c9
            try clear c9b0
            try clear c13
            try clear c16
            try clear c18
            try clear c18b0
            try clear c18b1
            try clear c19
            try clear c19b0
            try clear c19b1
            try clear c21
            try clear c21b0
            try clear c21b1
            try clear c22
            try clear c22b0
            try clear c22b1
            try clear c25
            try clear c25b0
            try clear c25b1
            try clear q29
            try clear q36
            try clear c37
            try clear c44
            try clear c44b0
            try clear p2
            try clear q29
            try clear q36
            obtain ⟨kq, x49_39, rfl, HA, HJ39, HB⟩ := hcut
            cases kq with
            | zero => exact absurd HA.out (by simp [knelllaw13_JudgeFront.j1])
            | succ kj39 =>
              have H := HA.out
              clear HA
              simp only [knelllaw13_JudgeFront.j1] at H
              by_cases c45 : x49_39 = true
              · subst c45
                have H1 : (some false) = some r := by rw [if_pos rfl] at H; exact H
                clear H
                have H := H1
                clear H1
                obtain rfl := Option.some.inj H
                go_wp2
                go_ret
                exact ⟨by first | rfl | (simp [errW_none, errW_some] <;> rfl) | (simp [*, errW_none, errW_some] <;> rfl), by repeat (first | (with_reducible first | exact HB.out | apply below_alloc | apply pw_below_drewN | apply below_drew1) | exact HB.out)⟩
              · replace c45 := Bool.eq_false_iff.mpr c45
                subst c45
                have H1 : (if 0 ≤ (wrap64 (t125 + 1)) then (if (wrap64 (t125 + 1)) ≤ (l1.length : Int) then ((knelllaw11_Ofs.f kj39 (l1.take ((wrap64 (t125 + 1)) : Int).toNat)).bind fun t140 => ((judge_Judge.f t140 a0).bind fun bt143 => (if bt143.1 = t125 then (knelllaw13_JudgeFront.j2 kj39 a0 l1 a2 t125 (bt143.2 != t126)) else (knelllaw13_JudgeFront.j2 kj39 a0 l1 a2 t125 true)))) else (none)) else (none)) = some r := by rw [if_neg (show ¬ (false = true) by decide)] at H; exact H
                clear H
                have H := H1
                clear H1
                obtain ⟨ji46, hji46⟩ : ∃ j_ : Int, (wrap64 (t125 + 1)) = j_ := ⟨_, rfl⟩
                replace H : (if 0 ≤ (ji46) then (if (ji46) ≤ (l1.length : Int) then ((knelllaw11_Ofs.f kj39 (l1.take ((ji46) : Int).toNat)).bind fun t140 => ((judge_Judge.f t140 a0).bind fun bt143 => (if bt143.1 = t125 then (knelllaw13_JudgeFront.j2 kj39 a0 l1 a2 t125 (bt143.2 != t126)) else (knelllaw13_JudgeFront.j2 kj39 a0 l1 a2 t125 true)))) else (none)) else (none)) = some r := by first | (rw [hji46] at H; exact H) | (simp only [hji46] at H ⊢; exact H)
                have hji46w : (IntKind.i64.wrap (t125 + 1)) = ji46 := (i64_w _).trans hji46
                by_cases c47 : 0 ≤ (ji46)
                · rw [if_pos c47] at H
                  have c47b0 := eq_true c47
                  have c47b1 : decide (0 ≤ (ji46)) = true := decide_eq_true c47
                  clear c47
                  by_cases c48 : (ji46) ≤ (l1.length : Int)
                  · rw [if_pos c48] at H
                    have c48b0 := eq_true c48
                    have c48b1 : decide ((ji46) ≤ (l1.length : Int)) = true := decide_eq_true c48
                    clear c48
                    obtain ⟨y136, hy136⟩ : ∃ y_ : List (S50), y_ = (l1.take ((ji46) : Int).toNat) := ⟨_, rfl⟩
                    replace H : ((knelllaw11_Ofs.f kj39 y136).bind fun t140 => ((judge_Judge.f t140 a0).bind fun bt143 => (if bt143.1 = t125 then (knelllaw13_JudgeFront.j2 kj39 a0 l1 a2 t125 (bt143.2 != t126)) else (knelllaw13_JudgeFront.j2 kj39 a0 l1 a2 t125 true)))) = some r := by first | (rw [hy136]; with_reducible exact H) | (have H2_ := (Option.bind_some _ _).symm.trans H; rw [hy136]; with_reducible exact H2_) | (have H2_ := (Option.bind_some _ _).symm.trans H; with_reducible exact H2_) | with_reducible exact H | (rw [hy136]; exact H) | exact H
                    have Ny136 := Aside0.mk hy136
                    clear hy136
                    replace H := Option.bind_eq_some_iff.mp H
                    obtain ⟨t140, A490, H⟩ := H
                    replace H : ((judge_Judge.f t140 a0).bind fun bt143 => (if bt143.1 = t125 then (knelllaw13_JudgeFront.j2 kj39 a0 l1 a2 t125 (bt143.2 != t126)) else (knelllaw13_JudgeFront.j2 kj39 a0 l1 a2 t125 true))) = some r := H
                    have A49 := Aside0.mk A490
                    clear A490
                    replace H := Option.bind_eq_some_iff.mp H
                    obtain ⟨⟨t143, t144⟩, A500, H⟩ := H
                    replace H : (if t143 = t125 then (knelllaw13_JudgeFront.j2 kj39 a0 l1 a2 t125 (t144 != t126)) else (knelllaw13_JudgeFront.j2 kj39 a0 l1 a2 t125 true)) = some r := H
                    have A50 := Aside0.mk A500
                    clear A500
                    have HC51 := Aside0.mk H
                    clear H
                    have q52 : ((ji46) : Int) ≤ ((l1.length : Int) : Int) := of_decide_eq_true (by first | (with_reducible assumption) | assumption)
                    obtain ⟨i052, hi052, _, hsz52, _⟩ := info_parts info50
                    have hroom52 : l1.length ≤ c1 := HC1.out
                    have hC52 : Kd.C k50 _ A1 l1.length l1 := HR1.out
                    have hcut52 := cut_to (P := Try.prog) 22 50 .i64 Try.underlying22 hi052 A1 l1.length c1 (ji46) (of_decide_eq_true (by first | (with_reducible assumption) | assumption)) q52 hroom52
                    have hr52 := Kd.C_take (m := ((ji46) : Int).toNat) hC52 (by omega)
                    have hy52 : y136.length = ((ji46) : Int).toNat := (by rw [Ny136.out, List.length_take]; omega)
                    rw [← Ny136.out] at hr52
                    rw [← hy52] at hcut52
                    have HR139 := Aside0.mk hr52
                    have HC139 := Aside0.mk (show y136.length ≤ c1 from by omega)
                    clear hr52 hC52 hroom52 hi052 hsz52
                    have KY52 := Aside0.mk hy52
                    clear hy52
                    replace q52 := eq_true q52
                    go_upto_region 10 with (first | ((with_reducible refine gate_callee (f := 16) rfl ?_); refine goesL_ (some 56) rfl rfl Try.func16 (by kernel_rfl) rfl #[.slice A1 y136.length c1] rfl (by (try simp only [List.map_toArray, List.map_cons, List.map_nil]); first | done | rfl | (simp only [List.length_drop, List.length_take]; rfl)) ?_; (with_reducible refine (knelllaw11_Ofs.calls kj39 _ _ y136 t140 _ ?side1 ?side2 A49.out).mono ?_); (case side1 => repeat (first | exact (Kd.C_below HR139.out HB.out) | (with_reducible refine Kd.C_alloc ?_ _) | (with_reducible refine Kd.C_drewN ?_ _) | (with_reducible refine Kd.C_drew ?_))); (case side2 => exact HC139.out); rintro e w53 ⟨v141, rfl, ho0, hb⟩; refine ⟨_, rfl, ?_⟩; have n0_ := Aside0.mk (Kd.R_lower ho0 (below_size (by repeat (first | (with_reducible first | exact HB.out | apply below_alloc | apply pw_below_drewN | apply below_drew1) | exact HB.out)))); have n1_ := Aside0.mk (below_step (by repeat (first | (with_reducible first | exact HB.out | apply below_alloc | apply pw_below_drewN | apply below_drew1) | exact HB.out)) hb); clear HB; have HO142 := n0_; have HB := n1_; clear n0_ n1_; (try clear hb); (try clear hb2); (try clear hk); (try clear hi); (try clear ho0); obtain ⟨Ao54, co54, eo54⟩ := Kd.R_slice HO142.out; subst eo54) | ((with_reducible refine gate_callee (f := 37) rfl ?_); refine goesL_ (some 58) rfl rfl Try.func37 (by kernel_rfl) rfl #[.slice Ao54 t140.length co54, .int .i64 a0] rfl (by (try simp only [List.map_toArray, List.map_cons, List.map_nil]); first | done | rfl | (simp only [List.length_drop, List.length_take]; rfl)) ?_; (with_reducible refine (judge_Judge.calls _ _ t140 a0 t143 t144 _ ?side1 ?side2 A50.out).mono ?_); (case side1 => repeat (first | exact (Kd.R_reads' HO142.out).2.2 | (with_reducible refine Kd.C_alloc ?_ _) | (with_reducible refine Kd.C_drewN ?_ _) | (with_reducible refine Kd.C_drew ?_))); (case side2 => exact (Kd.R_reads' HO142.out).2.1); rintro e w55 ⟨rfl, hb⟩; refine ⟨_, rfl, ?_⟩; have n0_ := Aside0.mk (Kd.R_below (by (with_reducible repeat (first | apply Kd.R_alloc | apply Kd.R_drewN | apply Kd.R_drew)); exact HO142.out) hb); have n1_ := Aside0.mk (below_step (by repeat (first | (with_reducible first | exact HB.out | apply below_alloc | apply pw_below_drewN | apply below_drew1) | exact HB.out)) hb); clear HO142; clear HB; have HO142 := n0_; have HB := n1_; clear n0_ n1_; (try clear hb); (try clear hb2); (try clear hk); (try clear hi)))
                    (try simp only [Act.put, List.setIfInBounds_toArray, List.set_cons_zero, List.set_cons_succ])
                    go_cut [68] (fun v68 wc => ∃ (kq : Nat) (x68_50 : Bool), v68 = .bool x68_50 ∧ Aside0 (knelllaw13_JudgeFront.j2 kq a0 l1 a2 t125 x68_50 = some r) ∧ Aside0 (kq ≤ kj39) ∧ Aside0 (Below w.heap.size w wc))
                    case first =>
                      have H := HC51.out
                      clear HC51
                      by_cases c56 : t143 = t125
                      · rw [if_pos c56] at H
                        have c56b0 : (t143 == t125) = true := beq_iff_eq.mpr c56
                        have c56b1 : (t143 != t125) = false := bne_eq_false_iff_eq.mpr c56
                        clear c56
                        (first | rw [c56b0] | (simp only [i64_w, i32_w]; rw [c56b0]) | skip)
                        have H' := Aside0.mk H
                        clear H
                        go_wp2
                        go_meet
                        case rel => exact ⟨_, ((t144 != t126)), (by first | rfl | (simp; done) | (simp [*]; done)), H', ⟨by have := HJ3.out; have := HJ39.out; first | omega | exact Nat.le_refl _⟩, ⟨by repeat (first | (with_reducible first | exact HB.out | apply below_alloc | apply pw_below_drewN | apply below_drew1) | exact HB.out)⟩⟩
                      · rw [if_neg c56] at H
                        have c56b0 : (t143 == t125) = false := beq_eq_false_iff_ne.mpr c56
                        have c56b1 : (t143 != t125) = true := bne_iff_ne.mpr c56
                        (first | rw [c56b0] | (simp only [i64_w, i32_w]; rw [c56b0]) | skip)
                        have H' := Aside0.mk H
                        clear H
                        go_wp2
                        go_meet
                        case rel => exact ⟨_, (true), (by first | rfl | (simp; done) | (simp [*]; done)), H', ⟨by have := HJ3.out; have := HJ39.out; first | omega | exact Nat.le_refl _⟩, ⟨by repeat (first | (with_reducible first | exact HB.out | apply below_alloc | apply pw_below_drewN | apply below_drew1) | exact HB.out)⟩⟩
                    case rest =>
                      clear HC51
                      try clear c1
                      try clear c2
                      try clear p2
                      try clear q2
                      try clear c3
                      try clear q3
                      try clear c4
                      try clear c5
                      try clear q5
                      try clear c6
                      try clear p6
                      try clear c7
                      try clear c7b0
                      try clear c7b1
                      try clear c8
                      try clear c9
                      try clear c9b0
                      try clear c13
                      try clear c16
                      try clear c18
                      try clear c18b0
                      try clear c18b1
                      try clear c19
                      try clear c19b0
                      try clear c19b1
                      try clear c21
                      try clear c21b0
                      try clear c21b1
                      try clear c22
                      try clear c22b0
                      try clear c22b1
                      try clear c25
                      try clear c25b0
                      try clear c25b1
                      try clear q29
                      try clear q36
                      try clear c37
                      try clear c44
                      try clear c44b0
                      try clear c45
                      try clear c47
                      try clear c47b0
                      try clear c47b1
                      try clear c48
                      try clear c48b0
                      try clear c48b1
                      try clear q52
                      try clear c56
                      try clear c56b0
                      try clear c56b1
                      try clear p2
                      try clear p6
                      try clear q2
                      try clear q29
                      try clear q3
                      try clear q36
                      try clear q52
                      obtain ⟨kq, x68_50, rfl, HA, HJ50, HB⟩ := hcut
                      cases kq with
                      | zero => exact absurd HA.out (by simp [knelllaw13_JudgeFront.j2])
                      | succ kj50 =>
                        have H := HA.out
                        clear HA
                        simp only [knelllaw13_JudgeFront.j2] at H
                        by_cases c57 : x68_50 = true
                        · subst c57
                          have H1 : (some false) = some r := by rw [if_pos rfl] at H; exact H
                          clear H
                          have H := H1
                          clear H1
                          obtain rfl := Option.some.inj H
                          go_wp2
                          go_ret
                          exact ⟨by first | rfl | (simp [errW_none, errW_some] <;> rfl) | (simp only [← hji46]; first | rfl | (simp [errW_none, errW_some] <;> rfl)) | (simp [*, errW_none, errW_some] <;> rfl), by repeat (first | (with_reducible first | exact HB.out | apply below_alloc | apply pw_below_drewN | apply below_drew1) | exact HB.out)⟩
                        · replace c57 := Bool.eq_false_iff.mpr c57
                          subst c57
                          have H1 : (if (wrap64 (t125 + 1)) = 0 then (none) else (if 0 ≤ (Int.tmod (wrap64 (a2)) (wrap64 (t125 + 1))) then (if (Int.tmod (wrap64 (a2)) (wrap64 (t125 + 1))) ≤ (l1.length : Int) then ((knelllaw11_Ofs.f kj50 (l1.take ((Int.tmod (wrap64 (a2)) (wrap64 (t125 + 1))) : Int).toNat)).bind fun t149 => ((judge_Judge.f t149 a0).bind fun bt152 => (if bt152.1 = (-1) then (some (bt152.2 == 0)) else (some false)))) else (none)) else (none))) = some r := by rw [if_neg (show ¬ (false = true) by decide)] at H; exact H
                          clear H
                          have H := H1
                          clear H1
                          by_cases c58 : (wrap64 (t125 + 1)) = 0
                          · rw [if_pos c58] at H
                            exact absurd H (by simp)
                          · rw [if_neg c58] at H
                            have c58b0 : ((wrap64 (t125 + 1)) == 0) = false := beq_eq_false_iff_ne.mpr c58
                            have c58b1 : ((wrap64 (t125 + 1)) != 0) = true := bne_iff_ne.mpr c58
                            obtain ⟨ji59, hji59⟩ : ∃ j_ : Int, (Int.tmod (wrap64 (a2)) (wrap64 (t125 + 1))) = j_ := ⟨_, rfl⟩
                            have hji59z : (Int.tmod (wrap64 (a2)) ji46) = ji59 := by rw [← hji46]; exact hji59
                            replace H : (if 0 ≤ (ji59) then (if (ji59) ≤ (l1.length : Int) then ((knelllaw11_Ofs.f kj50 (l1.take ((ji59) : Int).toNat)).bind fun t149 => ((judge_Judge.f t149 a0).bind fun bt152 => (if bt152.1 = (-1) then (some (bt152.2 == 0)) else (some false)))) else (none)) else (none)) = some r := by first | (rw [hji59] at H; exact H) | (simp only [hji59] at H ⊢; exact H)
                            by_cases c60 : 0 ≤ (ji59)
                            · rw [if_pos c60] at H
                              have c60b0 := eq_true c60
                              have c60b1 : decide (0 ≤ (ji59)) = true := decide_eq_true c60
                              clear c60
                              by_cases c61 : (ji59) ≤ (l1.length : Int)
                              · rw [if_pos c61] at H
                                have c61b0 := eq_true c61
                                have c61b1 : decide ((ji59) ≤ (l1.length : Int)) = true := decide_eq_true c61
                                clear c61
                                obtain ⟨y145, hy145⟩ : ∃ y_ : List (S50), y_ = (l1.take ((ji59) : Int).toNat) := ⟨_, rfl⟩
                                replace H : ((knelllaw11_Ofs.f kj50 y145).bind fun t149 => ((judge_Judge.f t149 a0).bind fun bt152 => (if bt152.1 = (-1) then (some (bt152.2 == 0)) else (some false)))) = some r := by first | (rw [hy145]; with_reducible exact H) | (have H2_ := (Option.bind_some _ _).symm.trans H; rw [hy145]; with_reducible exact H2_) | (have H2_ := (Option.bind_some _ _).symm.trans H; with_reducible exact H2_) | with_reducible exact H | (rw [hy145]; exact H) | exact H
                                have Ny145 := Aside0.mk hy145
                                clear hy145
                                replace H := Option.bind_eq_some_iff.mp H
                                obtain ⟨t149, A620, H⟩ := H
                                replace H : ((judge_Judge.f t149 a0).bind fun bt152 => (if bt152.1 = (-1) then (some (bt152.2 == 0)) else (some false))) = some r := H
                                have A62 := Aside0.mk A620
                                clear A620
                                replace H := Option.bind_eq_some_iff.mp H
                                obtain ⟨⟨t152, t153⟩, A630, H⟩ := H
                                replace H : (if t152 = (-1) then (some (t153 == 0)) else (some false)) = some r := H
                                have A63 := Aside0.mk A630
                                clear A630
                                by_cases c64 : t152 = (-1)
                                · rw [if_pos c64] at H
                                  have c64b0 : (t152 == (-1)) = true := beq_iff_eq.mpr c64
                                  have c64b1 : (t152 != (-1)) = false := bne_eq_false_iff_eq.mpr c64
                                  clear c64
                                  obtain rfl := Option.some.inj H
                                  have q65 : ((ji59) : Int) ≤ ((l1.length : Int) : Int) := of_decide_eq_true (by first | (with_reducible assumption) | assumption)
                                  obtain ⟨i065, hi065, _, hsz65, _⟩ := info_parts info50
                                  have hroom65 : l1.length ≤ c1 := HC1.out
                                  have hC65 : Kd.C k50 _ A1 l1.length l1 := HR1.out
                                  have hcut65 := cut_to (P := Try.prog) 22 50 .i64 Try.underlying22 hi065 A1 l1.length c1 (ji59) (of_decide_eq_true (by first | (with_reducible assumption) | assumption)) q65 hroom65
                                  have hr65 := Kd.C_take (m := ((ji59) : Int).toNat) hC65 (by omega)
                                  have hy65 : y145.length = ((ji59) : Int).toNat := (by rw [Ny145.out, List.length_take]; omega)
                                  rw [← Ny145.out] at hr65
                                  rw [← hy65] at hcut65
                                  have HR148 := Aside0.mk hr65
                                  have HC148 := Aside0.mk (show y145.length ≤ c1 from by omega)
                                  clear hr65 hC65 hroom65 hi065 hsz65
                                  have KY65 := Aside0.mk hy65
                                  clear hy65
                                  replace q65 := eq_true q65
                                  go_wp2_with (first | ((with_reducible refine gate_callee (f := 16) rfl ?_); refine goesL_ (some 78) rfl rfl Try.func16 (by kernel_rfl) rfl #[.slice A1 y145.length c1] rfl (by (try simp only [List.map_toArray, List.map_cons, List.map_nil]); first | done | rfl | (simp only [List.length_drop, List.length_take]; rfl)) ?_; (with_reducible refine (knelllaw11_Ofs.calls kj50 _ _ y145 t149 _ ?side1 ?side2 A62.out).mono ?_); (case side1 => repeat (first | exact (Kd.C_below HR148.out HB.out) | (with_reducible refine Kd.C_alloc ?_ _) | (with_reducible refine Kd.C_drewN ?_ _) | (with_reducible refine Kd.C_drew ?_))); (case side2 => exact HC148.out); rintro e w66 ⟨v150, rfl, ho0, hb⟩; refine ⟨_, rfl, ?_⟩; have n0_ := Aside0.mk (Kd.R_lower ho0 (below_size (by repeat (first | (with_reducible first | exact HB.out | apply below_alloc | apply pw_below_drewN | apply below_drew1) | exact HB.out)))); have n1_ := Aside0.mk (below_step (by repeat (first | (with_reducible first | exact HB.out | apply below_alloc | apply pw_below_drewN | apply below_drew1) | exact HB.out)) hb); clear HB; have HO151 := n0_; have HB := n1_; clear n0_ n1_; (try clear hb); (try clear hb2); (try clear hk); (try clear hi); (try clear ho0); obtain ⟨Ao67, co67, eo67⟩ := Kd.R_slice HO151.out; subst eo67) | ((with_reducible refine gate_callee (f := 37) rfl ?_); refine goesL_ (some 80) rfl rfl Try.func37 (by kernel_rfl) rfl #[.slice Ao67 t149.length co67, .int .i64 a0] rfl (by (try simp only [List.map_toArray, List.map_cons, List.map_nil]); first | done | rfl | (simp only [List.length_drop, List.length_take]; rfl)) ?_; (with_reducible refine (judge_Judge.calls _ _ t149 a0 t152 t153 _ ?side1 ?side2 A63.out).mono ?_); (case side1 => repeat (first | exact (Kd.R_reads' HO151.out).2.2 | (with_reducible refine Kd.C_alloc ?_ _) | (with_reducible refine Kd.C_drewN ?_ _) | (with_reducible refine Kd.C_drew ?_))); (case side2 => exact (Kd.R_reads' HO151.out).2.1); rintro e w68 ⟨rfl, hb⟩; refine ⟨_, rfl, ?_⟩; have n0_ := Aside0.mk (Kd.R_below (by (with_reducible repeat (first | apply Kd.R_alloc | apply Kd.R_drewN | apply Kd.R_drew)); exact HO151.out) hb); have n1_ := Aside0.mk (below_step (by repeat (first | (with_reducible first | exact HB.out | apply below_alloc | apply pw_below_drewN | apply below_drew1) | exact HB.out)) hb); clear HO151; clear HB; have HO151 := n0_; have HB := n1_; clear n0_ n1_; (try clear hb); (try clear hb2); (try clear hk); (try clear hi)))
                                  go_ret
                                  exact ⟨by first | rfl | (simp [errW_none, errW_some] <;> rfl) | (simp only [← hji46, ← hji59]; first | rfl | (simp [errW_none, errW_some] <;> rfl)) | (simp [*, errW_none, errW_some] <;> rfl), by repeat (first | (with_reducible first | exact HB.out | apply below_alloc | apply pw_below_drewN | apply below_drew1) | exact HB.out)⟩
                                · rw [if_neg c64] at H
                                  have c64b0 : (t152 == (-1)) = false := beq_eq_false_iff_ne.mpr c64
                                  have c64b1 : (t152 != (-1)) = true := bne_iff_ne.mpr c64
                                  obtain rfl := Option.some.inj H
                                  have q69 : ((ji59) : Int) ≤ ((l1.length : Int) : Int) := of_decide_eq_true (by first | (with_reducible assumption) | assumption)
                                  obtain ⟨i069, hi069, _, hsz69, _⟩ := info_parts info50
                                  have hroom69 : l1.length ≤ c1 := HC1.out
                                  have hC69 : Kd.C k50 _ A1 l1.length l1 := HR1.out
                                  have hcut69 := cut_to (P := Try.prog) 22 50 .i64 Try.underlying22 hi069 A1 l1.length c1 (ji59) (of_decide_eq_true (by first | (with_reducible assumption) | assumption)) q69 hroom69
                                  have hr69 := Kd.C_take (m := ((ji59) : Int).toNat) hC69 (by omega)
                                  have hy69 : y145.length = ((ji59) : Int).toNat := (by rw [Ny145.out, List.length_take]; omega)
                                  rw [← Ny145.out] at hr69
                                  rw [← hy69] at hcut69
                                  have HR148 := Aside0.mk hr69
                                  have HC148 := Aside0.mk (show y145.length ≤ c1 from by omega)
                                  clear hr69 hC69 hroom69 hi069 hsz69
                                  have KY69 := Aside0.mk hy69
                                  clear hy69
                                  replace q69 := eq_true q69
                                  go_wp2_with (first | ((with_reducible refine gate_callee (f := 16) rfl ?_); refine goesL_ (some 78) rfl rfl Try.func16 (by kernel_rfl) rfl #[.slice A1 y145.length c1] rfl (by (try simp only [List.map_toArray, List.map_cons, List.map_nil]); first | done | rfl | (simp only [List.length_drop, List.length_take]; rfl)) ?_; (with_reducible refine (knelllaw11_Ofs.calls kj50 _ _ y145 t149 _ ?side1 ?side2 A62.out).mono ?_); (case side1 => repeat (first | exact (Kd.C_below HR148.out HB.out) | (with_reducible refine Kd.C_alloc ?_ _) | (with_reducible refine Kd.C_drewN ?_ _) | (with_reducible refine Kd.C_drew ?_))); (case side2 => exact HC148.out); rintro e w70 ⟨v150, rfl, ho0, hb⟩; refine ⟨_, rfl, ?_⟩; have n0_ := Aside0.mk (Kd.R_lower ho0 (below_size (by repeat (first | (with_reducible first | exact HB.out | apply below_alloc | apply pw_below_drewN | apply below_drew1) | exact HB.out)))); have n1_ := Aside0.mk (below_step (by repeat (first | (with_reducible first | exact HB.out | apply below_alloc | apply pw_below_drewN | apply below_drew1) | exact HB.out)) hb); clear HB; have HO151 := n0_; have HB := n1_; clear n0_ n1_; (try clear hb); (try clear hb2); (try clear hk); (try clear hi); (try clear ho0); obtain ⟨Ao71, co71, eo71⟩ := Kd.R_slice HO151.out; subst eo71) | ((with_reducible refine gate_callee (f := 37) rfl ?_); refine goesL_ (some 80) rfl rfl Try.func37 (by kernel_rfl) rfl #[.slice Ao71 t149.length co71, .int .i64 a0] rfl (by (try simp only [List.map_toArray, List.map_cons, List.map_nil]); first | done | rfl | (simp only [List.length_drop, List.length_take]; rfl)) ?_; (with_reducible refine (judge_Judge.calls _ _ t149 a0 t152 t153 _ ?side1 ?side2 A63.out).mono ?_); (case side1 => repeat (first | exact (Kd.R_reads' HO151.out).2.2 | (with_reducible refine Kd.C_alloc ?_ _) | (with_reducible refine Kd.C_drewN ?_ _) | (with_reducible refine Kd.C_drew ?_))); (case side2 => exact (Kd.R_reads' HO151.out).2.1); rintro e w72 ⟨rfl, hb⟩; refine ⟨_, rfl, ?_⟩; have n0_ := Aside0.mk (Kd.R_below (by (with_reducible repeat (first | apply Kd.R_alloc | apply Kd.R_drewN | apply Kd.R_drew)); exact HO151.out) hb); have n1_ := Aside0.mk (below_step (by repeat (first | (with_reducible first | exact HB.out | apply below_alloc | apply pw_below_drewN | apply below_drew1) | exact HB.out)) hb); clear HO151; clear HB; have HO151 := n0_; have HB := n1_; clear n0_ n1_; (try clear hb); (try clear hb2); (try clear hk); (try clear hi)))
                                  go_ret
                                  exact ⟨by first | rfl | (simp [errW_none, errW_some] <;> rfl) | (simp only [← hji46, ← hji59]; first | rfl | (simp [errW_none, errW_some] <;> rfl)) | (simp [*, errW_none, errW_some] <;> rfl), by repeat (first | (with_reducible first | exact HB.out | apply below_alloc | apply pw_below_drewN | apply below_drew1) | exact HB.out)⟩
                              · rw [if_neg c61] at H
                                exact absurd H (by simp)
                            · rw [if_neg c60] at H
                              exact absurd H (by simp)
                  · rw [if_neg c48] at H
                    exact absurd H (by simp)
                · rw [if_neg c47] at H
                  exact absurd H (by simp)

-- NOT PRINTED: function 9 (knelllaw13_JudgeNames)

end Go.Proofs.Ythniclbmpeklmaa.KJu
