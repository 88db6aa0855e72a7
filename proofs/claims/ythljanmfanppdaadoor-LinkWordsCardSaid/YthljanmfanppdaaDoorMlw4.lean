/- What is proved: a part of the way to the statement LinkWordsCardSaid: KLwx3, LwR, KLwx1, KLwx4, KLwx5, LwS, Krow; no conditions. Put together by a program of this session (claimv.py). -/
import Derived.ChangeArms
import Derived.WideShapes
import Derived.OpenShut
import Derived.Deep.Slices
import Derived.Test.YthljanmfanppdaaDoorMlw3
section
namespace Go.Proofs.YthljanmfanppdaaDoor.KLw
open Go.RowKit Go.Proofs.YthljanmfanppdaaDoorW.PrintWords Go.Proofs.YthljanmfanppdaaDoorW.PrintLast Go.Proofs.YthljanmfanppdaaDoorW.PrintMore
attribute [local go_sem] max2_int min2_int max_two min_two max_three min_three max_four min_four   -- for this text's walks alone
set_option linter.unusedVariables false
set_option linter.unusedSimpArgs false
mutual
def knellref24_Right.j0 : Nat → Bool → Int → Int → Int → Int → Int → Int → Int → Option (Bool)
 | 0, _, _, _, _, _, _, _, _ => none
 | k + 1, x32, x105000, x105001, x105002, x105003, x105004, x105005, x105006 => if x32 = true then (some false) else (knellref24_Right.l0 k (([x105001, x105003, x105004, x105005, x105006] : List Int)) 0 x105000 x105001 x105002 x105003 x105004 x105005 x105006)
def knellref24_Right.l0 : Nat → List Int → Int → Int → Int → Int → Int → Int → Int → Int → Option (Bool)
 | 0, _, _, _, _, _, _, _, _, _ => none
 | k + 1, x3, x4, x105000, x105001, x105002, x105003, x105004, x105005, x105006 => if x4 < 5 then (if 0 ≤ x4 then (if x4 < (x3.length : Int) then (if (rd x3 x4) = 0 then (knellref24_Right.l0 k x3 (wrap64 (x4 + 1)) x105000 x105001 x105002 x105003 x105004 x105005 x105006) else ((knellref24_Has.f k x105000 x105001 x105002 x105003 x105004 x105005 x105006 (bt (⟨#[119, 99, 116, 100, 101]⟩ : ByteArray) x4)).bind fun t110 => (if t110 = true then (knellref24_Right.l0 k x3 (wrap64 (x4 + 1)) x105000 x105001 x105002 x105003 x105004 x105005 x105006) else (some false)))) else (none)) else (none)) else (some true)
end
def knellref24_Right.f (k : Nat) (a0_0 : Int) (a0_1 : Int) (a0_2 : Int) (a0_3 : Int) (a0_4 : Int) (a0_5 : Int) (a0_6 : Int) : Option (Bool) := (knellref24_kind.f k a0_0 a0_1 a0_2 a0_3 a0_4 a0_5 a0_6).bind fun t105 => (if t105 = true then (if a0_1 < 0 then (knellref24_Right.j0 k true a0_0 a0_1 a0_2 a0_3 a0_4 a0_5 a0_6) else (if a0_4 < 0 then (knellref24_Right.j0 k true a0_0 a0_1 a0_2 a0_3 a0_4 a0_5 a0_6) else (if a0_6 < 0 then (knellref24_Right.j0 k true a0_0 a0_1 a0_2 a0_3 a0_4 a0_5 a0_6) else (if a0_0 = 4 then (knellref24_Right.j0 k (decide (a0_3 < 0)) a0_0 a0_1 a0_2 a0_3 a0_4 a0_5 a0_6) else (knellref24_Right.j0 k false a0_0 a0_1 a0_2 a0_3 a0_4 a0_5 a0_6))))) else (knellref24_Right.j0 k true a0_0 a0_1 a0_2 a0_3 a0_4 a0_5 a0_6))
def knellref24_Right.T7 : Bool × List (List Nat × List Nat) := (true, [([], []), ([], []), ([0, 1], [0, 1]), ([2], [2]), ([3], [3]), ([4], [4]), ([5], [5]), ([5], [5]), ([7, 5], [5, 7]), ([6, 8, 5, 5], [5, 6, 8]), ([9, 5], [5, 9]), ([5, 10], [5, 10])])
def knellref24_Right.B7 : List Nat := [0, 0, 3, 7, 15, 31, 63, 63, 191, 511, 1023, 2047]
theorem knellref24_Right.tab7 : rtab .any (opsOf Tryd.f5 7) = knellref24_Right.T7 := by kernel_rfl
theorem knellref24_Right.bits7 : waitsOk knellref24_Right.T7.2 knellref24_Right.B7 = true := by kernel_rfl
set_option maxHeartbeats 8000000 in
set_option maxRecDepth 100000 in
theorem knellref24_Right.calls (k : Nat) (a0_0 : Int) (a0_1 : Int) (a0_2 : Int) (a0_3 : Int) (a0_4 : Int) (a0_5 : Int) (a0_6 : Int) (r : Bool) (w : World) (h : knellref24_Right.f k a0_0 a0_1 a0_2 a0_3 a0_4 a0_5 a0_6 = some r) :
  Calls Tryd.prog 5 #[.agg #[.int .i64 a0_0, .int .i64 a0_1, .int .i64 a0_2, .int .i64 a0_3, .int .i64 a0_4, .int .i64 a0_5, .int .i64 a0_6]] w fun e w' => e = .returned (.bool r) ∧ Below w.heap.size w w' := by
 have hu23 := Tryd.underlying23
 have HB := Aside0.mk (Below.refl w.heap.size w)
 have H : ((knellref24_kind.f k a0_0 a0_1 a0_2 a0_3 a0_4 a0_5 a0_6).bind fun t105 => (if t105 = true then (if a0_1 < 0 then (knellref24_Right.j0 k true a0_0 a0_1 a0_2 a0_3 a0_4 a0_5 a0_6) else (if a0_4 < 0 then (knellref24_Right.j0 k true a0_0 a0_1 a0_2 a0_3 a0_4 a0_5 a0_6) else (if a0_6 < 0 then (knellref24_Right.j0 k true a0_0 a0_1 a0_2 a0_3 a0_4 a0_5 a0_6) else (if a0_0 = 4 then (knellref24_Right.j0 k (decide (a0_3 < 0)) a0_0 a0_1 a0_2 a0_3 a0_4 a0_5 a0_6) else (knellref24_Right.j0 k false a0_0 a0_1 a0_2 a0_3 a0_4 a0_5 a0_6))))) else (knellref24_Right.j0 k true a0_0 a0_1 a0_2 a0_3 a0_4 a0_5 a0_6))) = some r := h
 clear h
 have HC2 := Aside0.mk H
 clear H
 go_enter Tryd.func5, Tryd.ntmps5
 go_upto_region 1 with (first | ((with_reducible refine gate_dst (N := 1) rfl ?_); refine box_event ?hg (N := 1) ?hd (cs := #[.int .i64 a0_0, .int .i64 a0_1, .int .i64 a0_2, .int .i64 a0_3, .int .i64 a0_4, .int .i64 a0_5, .int .i64 a0_6]) (t := 23) ?hr ?_; (case hd => rfl); (case hg => rfl); (case hr => first | (go_simp; done) | (go_simp; rfl)); intro gb104 hg w3 hbox hb; have n0_ := Aside0.mk (below_step (by repeat (first | (with_reducible first | exact HB.out | apply below_alloc | apply pw_below_drewN | apply below_drew1) | exact HB.out)) hb); have n1_ := Aside0.mk (hbox); have n2_ := Aside0.mk ((by rw [hg]; exact (below_size (by repeat (first | (with_reducible first | exact HB.out | apply below_alloc | apply pw_below_drewN | apply below_drew1) | exact HB.out))) : w.heap.size ≤ gb104)); have n3_ := Aside0.mk ((by rw [hg]; exact (below_size (by repeat (first | (with_reducible first | exact HB.out | apply below_alloc | apply pw_below_drewN | apply below_drew1) | exact HB.out))) : w.heap.size ≤ gb104)); clear HB; have HB := n0_; have BK104 := n1_; have GW104 := n2_; have GE104 := n3_; clear n0_ n1_ n2_ n3_; clear hb hbox hg))
 (try simp only [Act.put, sQ0, sQ1, sQ2])
 go_cut [32] (fun v32 wc => ∃ (kq : Nat) (x32_1 : Bool), v32 = .bool x32_1 ∧ Aside0 (knellref24_Right.j0 kq x32_1 a0_0 a0_1 a0_2 a0_3 a0_4 a0_5 a0_6 = some r) ∧ Aside0 (kq ≤ k) ∧ Aside0 (wc.heap[gb104]? = some (.cells #[.int .i64 a0_0, .int .i64 a0_1, .int .i64 a0_2, .int .i64 a0_3, .int .i64 a0_4, .int .i64 a0_5, .int .i64 a0_6] 23 (0, 0))) ∧ Aside0 (Below w.heap.size w wc))
 case first =>
  have H := HC2.out
  clear HC2
  replace H := Option.bind_eq_some_iff.mp H
  obtain ⟨t105, A40, H⟩ := H
  replace H : (if t105 = true then (if a0_1 < 0 then (knellref24_Right.j0 k true a0_0 a0_1 a0_2 a0_3 a0_4 a0_5 a0_6) else (if a0_4 < 0 then (knellref24_Right.j0 k true a0_0 a0_1 a0_2 a0_3 a0_4 a0_5 a0_6) else (if a0_6 < 0 then (knellref24_Right.j0 k true a0_0 a0_1 a0_2 a0_3 a0_4 a0_5 a0_6) else (if a0_0 = 4 then (knellref24_Right.j0 k (decide (a0_3 < 0)) a0_0 a0_1 a0_2 a0_3 a0_4 a0_5 a0_6) else (knellref24_Right.j0 k false a0_0 a0_1 a0_2 a0_3 a0_4 a0_5 a0_6))))) else (knellref24_Right.j0 k true a0_0 a0_1 a0_2 a0_3 a0_4 a0_5 a0_6)) = some r := H
  have A4 := Aside0.mk A40
  clear A40
  by_cases c5 : t105 = true
  ·subst c5
   have H1 : (if a0_1 < 0 then (knellref24_Right.j0 k true a0_0 a0_1 a0_2 a0_3 a0_4 a0_5 a0_6) else (if a0_4 < 0 then (knellref24_Right.j0 k true a0_0 a0_1 a0_2 a0_3 a0_4 a0_5 a0_6) else (if a0_6 < 0 then (knellref24_Right.j0 k true a0_0 a0_1 a0_2 a0_3 a0_4 a0_5 a0_6) else (if a0_0 = 4 then (knellref24_Right.j0 k (decide (a0_3 < 0)) a0_0 a0_1 a0_2 a0_3 a0_4 a0_5 a0_6) else (knellref24_Right.j0 k false a0_0 a0_1 a0_2 a0_3 a0_4 a0_5 a0_6))))) = some r := by rw [if_pos rfl] at H; exact H
   clear H
   have H := H1
   clear H1
   by_cases c6 : a0_1 < 0
   ·rw [if_pos c6] at H
    have c6b0 : decide (a0_1 < 0) = true := decide_eq_true c6
    clear c6
    (first | rw [c6b0] | (simp only [i64_w, i32_w]; rw [c6b0]) | skip)
    have H' := Aside0.mk H
    clear H
    have hcz7_0 : w3.cell? ⟨gb104, 0, none⟩ = some (.int .i64 a0_0) := (blk_cell BK104.out 0).trans rfl
    have hcz7_1 : w3.cell? ⟨gb104, 1, none⟩ = some (.int .i64 a0_1) := (blk_cell BK104.out 1).trans rfl
    have hcz7_2 : w3.cell? ⟨gb104, 2, none⟩ = some (.int .i64 a0_2) := (blk_cell BK104.out 2).trans rfl
    have hcz7_3 : w3.cell? ⟨gb104, 3, none⟩ = some (.int .i64 a0_3) := (blk_cell BK104.out 3).trans rfl
    have hcz7_4 : w3.cell? ⟨gb104, 4, none⟩ = some (.int .i64 a0_4) := (blk_cell BK104.out 4).trans rfl
    have hcz7_5 : w3.cell? ⟨gb104, 5, none⟩ = some (.int .i64 a0_5) := (blk_cell BK104.out 5).trans rfl
    have hcz7_6 : w3.cell? ⟨gb104, 6, none⟩ = some (.int .i64 a0_6) := (blk_cell BK104.out 6).trans rfl
    have hfz7_0 := blk_frozen BK104.out 0
    have hfz7_1 := blk_frozen BK104.out 1
    have hfz7_2 := blk_frozen BK104.out 2
    have hfz7_3 := blk_frozen BK104.out 3
    have hfz7_4 := blk_frozen BK104.out 4
    have hfz7_5 := blk_frozen BK104.out 5
    have hfz7_6 := blk_frozen BK104.out 6
    go_wp2_with (first | ((with_reducible refine gate_callee (f := 11) rfl ?_); refine goesL_ (some 6) rfl rfl Tryd.func11 (by kernel_rfl) rfl #[.agg #[.int .i64 a0_0, .int .i64 a0_1, .int .i64 a0_2, .int .i64 a0_3, .int .i64 a0_4, .int .i64 a0_5, .int .i64 a0_6]] rfl (by (try simp only [List.map_toArray, List.map_cons, List.map_nil]); first | done | rfl | (simp only [List.length_drop, List.length_take]; rfl)) ?_; (with_reducible refine (knellref24_kind.calls k a0_0 a0_1 a0_2 a0_3 a0_4 a0_5 a0_6 true _ A4.out).mono ?_); rintro e w8 ⟨rfl, hb⟩; refine ⟨_, rfl, ?_⟩; have n0_ := Aside0.mk (blk_below (g := gb104) (o := .cells #[.int .i64 a0_0, .int .i64 a0_1, .int .i64 a0_2, .int .i64 a0_3, .int .i64 a0_4, .int .i64 a0_5, .int .i64 a0_6] 23 (0, 0)) (by (with_reducible repeat (first | refine blk_drewN ?_ _ | refine blk_drew ?_ | refine blk_alloc ?_ _)); exact BK104.out) hb); have n1_ := Aside0.mk (below_step (by repeat (first | (with_reducible first | exact HB.out | apply below_alloc | apply pw_below_drewN | apply below_drew1 | refine below_set ?_ GE104.out) | exact HB.out)) hb); clear BK104; clear HB; have BK104 := n0_; have HB := n1_; clear n0_ n1_; (try clear hb); (try clear hb2); (try clear hk); (try clear hi); have hcz9_0 : w8.cell? ⟨gb104, 0, none⟩ = some (.int .i64 a0_0) := (blk_cell BK104.out 0).trans rfl; have hcz9_1 : w8.cell? ⟨gb104, 1, none⟩ = some (.int .i64 a0_1) := (blk_cell BK104.out 1).trans rfl; have hcz9_2 : w8.cell? ⟨gb104, 2, none⟩ = some (.int .i64 a0_2) := (blk_cell BK104.out 2).trans rfl; have hcz9_3 : w8.cell? ⟨gb104, 3, none⟩ = some (.int .i64 a0_3) := (blk_cell BK104.out 3).trans rfl; have hcz9_4 : w8.cell? ⟨gb104, 4, none⟩ = some (.int .i64 a0_4) := (blk_cell BK104.out 4).trans rfl; have hcz9_5 : w8.cell? ⟨gb104, 5, none⟩ = some (.int .i64 a0_5) := (blk_cell BK104.out 5).trans rfl; have hcz9_6 : w8.cell? ⟨gb104, 6, none⟩ = some (.int .i64 a0_6) := (blk_cell BK104.out 6).trans rfl; have hfz9_0 := blk_frozen BK104.out 0; have hfz9_1 := blk_frozen BK104.out 1; have hfz9_2 := blk_frozen BK104.out 2; have hfz9_3 := blk_frozen BK104.out 3; have hfz9_4 := blk_frozen BK104.out 4; have hfz9_5 := blk_frozen BK104.out 5; have hfz9_6 := blk_frozen BK104.out 6))
    go_meet
    case rel => exact ⟨_, (true), (by first | rfl | (simp; done) | (simp [*]; done)), H', ⟨by first | omega | exact Nat.le_refl _⟩, ⟨by (with_reducible repeat (first | refine blk_drewN ?_ _ | refine blk_drew ?_ | refine blk_alloc ?_ _)); exact BK104.out⟩, ⟨by repeat (first | (with_reducible first | exact HB.out | apply below_alloc | apply pw_below_drewN | apply below_drew1 | refine below_set ?_ GE104.out) | exact HB.out)⟩⟩
   ·rw [if_neg c6] at H
    have c6b0 : decide (a0_1 < 0) = false := decide_eq_false c6
    clear c6
    (first | rw [c6b0] | (simp only [i64_w, i32_w]; rw [c6b0]) | skip)
    by_cases c10 : a0_4 < 0
    ·rw [if_pos c10] at H
     have c10b0 : decide (a0_4 < 0) = true := decide_eq_true c10
     clear c10
     have H' := Aside0.mk H
     clear H
     have hcz11_0 : w3.cell? ⟨gb104, 0, none⟩ = some (.int .i64 a0_0) := (blk_cell BK104.out 0).trans rfl
     have hcz11_1 : w3.cell? ⟨gb104, 1, none⟩ = some (.int .i64 a0_1) := (blk_cell BK104.out 1).trans rfl
     have hcz11_2 : w3.cell? ⟨gb104, 2, none⟩ = some (.int .i64 a0_2) := (blk_cell BK104.out 2).trans rfl
     have hcz11_3 : w3.cell? ⟨gb104, 3, none⟩ = some (.int .i64 a0_3) := (blk_cell BK104.out 3).trans rfl
     have hcz11_4 : w3.cell? ⟨gb104, 4, none⟩ = some (.int .i64 a0_4) := (blk_cell BK104.out 4).trans rfl
     have hcz11_5 : w3.cell? ⟨gb104, 5, none⟩ = some (.int .i64 a0_5) := (blk_cell BK104.out 5).trans rfl
     have hcz11_6 : w3.cell? ⟨gb104, 6, none⟩ = some (.int .i64 a0_6) := (blk_cell BK104.out 6).trans rfl
     have hfz11_0 := blk_frozen BK104.out 0
     have hfz11_1 := blk_frozen BK104.out 1
     have hfz11_2 := blk_frozen BK104.out 2
     have hfz11_3 := blk_frozen BK104.out 3
     have hfz11_4 := blk_frozen BK104.out 4
     have hfz11_5 := blk_frozen BK104.out 5
     have hfz11_6 := blk_frozen BK104.out 6
     go_wp2_with (first | ((with_reducible refine gate_callee (f := 11) rfl ?_); refine goesL_ (some 6) rfl rfl Tryd.func11 (by kernel_rfl) rfl #[.agg #[.int .i64 a0_0, .int .i64 a0_1, .int .i64 a0_2, .int .i64 a0_3, .int .i64 a0_4, .int .i64 a0_5, .int .i64 a0_6]] rfl (by (try simp only [List.map_toArray, List.map_cons, List.map_nil]); first | done | rfl | (simp only [List.length_drop, List.length_take]; rfl)) ?_; (with_reducible refine (knellref24_kind.calls k a0_0 a0_1 a0_2 a0_3 a0_4 a0_5 a0_6 true _ A4.out).mono ?_); rintro e w12 ⟨rfl, hb⟩; refine ⟨_, rfl, ?_⟩; have n0_ := Aside0.mk (blk_below (g := gb104) (o := .cells #[.int .i64 a0_0, .int .i64 a0_1, .int .i64 a0_2, .int .i64 a0_3, .int .i64 a0_4, .int .i64 a0_5, .int .i64 a0_6] 23 (0, 0)) (by (with_reducible repeat (first | refine blk_drewN ?_ _ | refine blk_drew ?_ | refine blk_alloc ?_ _)); exact BK104.out) hb); have n1_ := Aside0.mk (below_step (by repeat (first | (with_reducible first | exact HB.out | apply below_alloc | apply pw_below_drewN | apply below_drew1 | refine below_set ?_ GE104.out) | exact HB.out)) hb); clear BK104; clear HB; have BK104 := n0_; have HB := n1_; clear n0_ n1_; (try clear hb); (try clear hb2); (try clear hk); (try clear hi); have hcz13_0 : w12.cell? ⟨gb104, 0, none⟩ = some (.int .i64 a0_0) := (blk_cell BK104.out 0).trans rfl; have hcz13_1 : w12.cell? ⟨gb104, 1, none⟩ = some (.int .i64 a0_1) := (blk_cell BK104.out 1).trans rfl; have hcz13_2 : w12.cell? ⟨gb104, 2, none⟩ = some (.int .i64 a0_2) := (blk_cell BK104.out 2).trans rfl; have hcz13_3 : w12.cell? ⟨gb104, 3, none⟩ = some (.int .i64 a0_3) := (blk_cell BK104.out 3).trans rfl; have hcz13_4 : w12.cell? ⟨gb104, 4, none⟩ = some (.int .i64 a0_4) := (blk_cell BK104.out 4).trans rfl; have hcz13_5 : w12.cell? ⟨gb104, 5, none⟩ = some (.int .i64 a0_5) := (blk_cell BK104.out 5).trans rfl; have hcz13_6 : w12.cell? ⟨gb104, 6, none⟩ = some (.int .i64 a0_6) := (blk_cell BK104.out 6).trans rfl; have hfz13_0 := blk_frozen BK104.out 0; have hfz13_1 := blk_frozen BK104.out 1; have hfz13_2 := blk_frozen BK104.out 2; have hfz13_3 := blk_frozen BK104.out 3; have hfz13_4 := blk_frozen BK104.out 4; have hfz13_5 := blk_frozen BK104.out 5; have hfz13_6 := blk_frozen BK104.out 6))
     go_meet
     case rel => exact ⟨_, (true), (by first | rfl | (simp; done) | (simp [*]; done)), H', ⟨by first | omega | exact Nat.le_refl _⟩, ⟨by (with_reducible repeat (first | refine blk_drewN ?_ _ | refine blk_drew ?_ | refine blk_alloc ?_ _)); exact BK104.out⟩, ⟨by repeat (first | (with_reducible first | exact HB.out | apply below_alloc | apply pw_below_drewN | apply below_drew1 | refine below_set ?_ GE104.out) | exact HB.out)⟩⟩
    ·rw [if_neg c10] at H
     have c10b0 : decide (a0_4 < 0) = false := decide_eq_false c10
     clear c10
     by_cases c14 : a0_6 < 0
     ·rw [if_pos c14] at H
      have c14b0 : decide (a0_6 < 0) = true := decide_eq_true c14
      clear c14
      have H' := Aside0.mk H
      clear H
      have hcz15_0 : w3.cell? ⟨gb104, 0, none⟩ = some (.int .i64 a0_0) := (blk_cell BK104.out 0).trans rfl
      have hcz15_1 : w3.cell? ⟨gb104, 1, none⟩ = some (.int .i64 a0_1) := (blk_cell BK104.out 1).trans rfl
      have hcz15_2 : w3.cell? ⟨gb104, 2, none⟩ = some (.int .i64 a0_2) := (blk_cell BK104.out 2).trans rfl
      have hcz15_3 : w3.cell? ⟨gb104, 3, none⟩ = some (.int .i64 a0_3) := (blk_cell BK104.out 3).trans rfl
      have hcz15_4 : w3.cell? ⟨gb104, 4, none⟩ = some (.int .i64 a0_4) := (blk_cell BK104.out 4).trans rfl
      have hcz15_5 : w3.cell? ⟨gb104, 5, none⟩ = some (.int .i64 a0_5) := (blk_cell BK104.out 5).trans rfl
      have hcz15_6 : w3.cell? ⟨gb104, 6, none⟩ = some (.int .i64 a0_6) := (blk_cell BK104.out 6).trans rfl
      have hfz15_0 := blk_frozen BK104.out 0
      have hfz15_1 := blk_frozen BK104.out 1
      have hfz15_2 := blk_frozen BK104.out 2
      have hfz15_3 := blk_frozen BK104.out 3
      have hfz15_4 := blk_frozen BK104.out 4
      have hfz15_5 := blk_frozen BK104.out 5
      have hfz15_6 := blk_frozen BK104.out 6
      go_wp2_with (first | ((with_reducible refine gate_callee (f := 11) rfl ?_); refine goesL_ (some 6) rfl rfl Tryd.func11 (by kernel_rfl) rfl #[.agg #[.int .i64 a0_0, .int .i64 a0_1, .int .i64 a0_2, .int .i64 a0_3, .int .i64 a0_4, .int .i64 a0_5, .int .i64 a0_6]] rfl (by (try simp only [List.map_toArray, List.map_cons, List.map_nil]); first | done | rfl | (simp only [List.length_drop, List.length_take]; rfl)) ?_; (with_reducible refine (knellref24_kind.calls k a0_0 a0_1 a0_2 a0_3 a0_4 a0_5 a0_6 true _ A4.out).mono ?_); rintro e w16 ⟨rfl, hb⟩; refine ⟨_, rfl, ?_⟩; have n0_ := Aside0.mk (blk_below (g := gb104) (o := .cells #[.int .i64 a0_0, .int .i64 a0_1, .int .i64 a0_2, .int .i64 a0_3, .int .i64 a0_4, .int .i64 a0_5, .int .i64 a0_6] 23 (0, 0)) (by (with_reducible repeat (first | refine blk_drewN ?_ _ | refine blk_drew ?_ | refine blk_alloc ?_ _)); exact BK104.out) hb); have n1_ := Aside0.mk (below_step (by repeat (first | (with_reducible first | exact HB.out | apply below_alloc | apply pw_below_drewN | apply below_drew1 | refine below_set ?_ GE104.out) | exact HB.out)) hb); clear BK104; clear HB; have BK104 := n0_; have HB := n1_; clear n0_ n1_; (try clear hb); (try clear hb2); (try clear hk); (try clear hi); have hcz17_0 : w16.cell? ⟨gb104, 0, none⟩ = some (.int .i64 a0_0) := (blk_cell BK104.out 0).trans rfl; have hcz17_1 : w16.cell? ⟨gb104, 1, none⟩ = some (.int .i64 a0_1) := (blk_cell BK104.out 1).trans rfl; have hcz17_2 : w16.cell? ⟨gb104, 2, none⟩ = some (.int .i64 a0_2) := (blk_cell BK104.out 2).trans rfl; have hcz17_3 : w16.cell? ⟨gb104, 3, none⟩ = some (.int .i64 a0_3) := (blk_cell BK104.out 3).trans rfl; have hcz17_4 : w16.cell? ⟨gb104, 4, none⟩ = some (.int .i64 a0_4) := (blk_cell BK104.out 4).trans rfl; have hcz17_5 : w16.cell? ⟨gb104, 5, none⟩ = some (.int .i64 a0_5) := (blk_cell BK104.out 5).trans rfl; have hcz17_6 : w16.cell? ⟨gb104, 6, none⟩ = some (.int .i64 a0_6) := (blk_cell BK104.out 6).trans rfl; have hfz17_0 := blk_frozen BK104.out 0; have hfz17_1 := blk_frozen BK104.out 1; have hfz17_2 := blk_frozen BK104.out 2; have hfz17_3 := blk_frozen BK104.out 3; have hfz17_4 := blk_frozen BK104.out 4; have hfz17_5 := blk_frozen BK104.out 5; have hfz17_6 := blk_frozen BK104.out 6))
      go_meet
      case rel => exact ⟨_, (true), (by first | rfl | (simp; done) | (simp [*]; done)), H', ⟨by first | omega | exact Nat.le_refl _⟩, ⟨by (with_reducible repeat (first | refine blk_drewN ?_ _ | refine blk_drew ?_ | refine blk_alloc ?_ _)); exact BK104.out⟩, ⟨by repeat (first | (with_reducible first | exact HB.out | apply below_alloc | apply pw_below_drewN | apply below_drew1 | refine below_set ?_ GE104.out) | exact HB.out)⟩⟩
     ·rw [if_neg c14] at H
      have c14b0 : decide (a0_6 < 0) = false := decide_eq_false c14
      clear c14
      by_cases c18 : a0_0 = 4
      ·rw [if_pos c18] at H
       have c18b0 : (a0_0 == 4) = true := beq_iff_eq.mpr c18
       have c18b1 : (a0_0 != 4) = false := bne_eq_false_iff_eq.mpr c18
       clear c18
       have H' := Aside0.mk H
       clear H
       have hcz19_0 : w3.cell? ⟨gb104, 0, none⟩ = some (.int .i64 a0_0) := (blk_cell BK104.out 0).trans rfl
       have hcz19_1 : w3.cell? ⟨gb104, 1, none⟩ = some (.int .i64 a0_1) := (blk_cell BK104.out 1).trans rfl
       have hcz19_2 : w3.cell? ⟨gb104, 2, none⟩ = some (.int .i64 a0_2) := (blk_cell BK104.out 2).trans rfl
       have hcz19_3 : w3.cell? ⟨gb104, 3, none⟩ = some (.int .i64 a0_3) := (blk_cell BK104.out 3).trans rfl
       have hcz19_4 : w3.cell? ⟨gb104, 4, none⟩ = some (.int .i64 a0_4) := (blk_cell BK104.out 4).trans rfl
       have hcz19_5 : w3.cell? ⟨gb104, 5, none⟩ = some (.int .i64 a0_5) := (blk_cell BK104.out 5).trans rfl
       have hcz19_6 : w3.cell? ⟨gb104, 6, none⟩ = some (.int .i64 a0_6) := (blk_cell BK104.out 6).trans rfl
       have hfz19_0 := blk_frozen BK104.out 0
       have hfz19_1 := blk_frozen BK104.out 1
       have hfz19_2 := blk_frozen BK104.out 2
       have hfz19_3 := blk_frozen BK104.out 3
       have hfz19_4 := blk_frozen BK104.out 4
       have hfz19_5 := blk_frozen BK104.out 5
       have hfz19_6 := blk_frozen BK104.out 6
       go_wp2_with (first | ((with_reducible refine gate_callee (f := 11) rfl ?_); refine goesL_ (some 6) rfl rfl Tryd.func11 (by kernel_rfl) rfl #[.agg #[.int .i64 a0_0, .int .i64 a0_1, .int .i64 a0_2, .int .i64 a0_3, .int .i64 a0_4, .int .i64 a0_5, .int .i64 a0_6]] rfl (by (try simp only [List.map_toArray, List.map_cons, List.map_nil]); first | done | rfl | (simp only [List.length_drop, List.length_take]; rfl)) ?_; (with_reducible refine (knellref24_kind.calls k a0_0 a0_1 a0_2 a0_3 a0_4 a0_5 a0_6 true _ A4.out).mono ?_); rintro e w20 ⟨rfl, hb⟩; refine ⟨_, rfl, ?_⟩; have n0_ := Aside0.mk (blk_below (g := gb104) (o := .cells #[.int .i64 a0_0, .int .i64 a0_1, .int .i64 a0_2, .int .i64 a0_3, .int .i64 a0_4, .int .i64 a0_5, .int .i64 a0_6] 23 (0, 0)) (by (with_reducible repeat (first | refine blk_drewN ?_ _ | refine blk_drew ?_ | refine blk_alloc ?_ _)); exact BK104.out) hb); have n1_ := Aside0.mk (below_step (by repeat (first | (with_reducible first | exact HB.out | apply below_alloc | apply pw_below_drewN | apply below_drew1 | refine below_set ?_ GE104.out) | exact HB.out)) hb); clear BK104; clear HB; have BK104 := n0_; have HB := n1_; clear n0_ n1_; (try clear hb); (try clear hb2); (try clear hk); (try clear hi); have hcz21_0 : w20.cell? ⟨gb104, 0, none⟩ = some (.int .i64 a0_0) := (blk_cell BK104.out 0).trans rfl; have hcz21_1 : w20.cell? ⟨gb104, 1, none⟩ = some (.int .i64 a0_1) := (blk_cell BK104.out 1).trans rfl; have hcz21_2 : w20.cell? ⟨gb104, 2, none⟩ = some (.int .i64 a0_2) := (blk_cell BK104.out 2).trans rfl; have hcz21_3 : w20.cell? ⟨gb104, 3, none⟩ = some (.int .i64 a0_3) := (blk_cell BK104.out 3).trans rfl; have hcz21_4 : w20.cell? ⟨gb104, 4, none⟩ = some (.int .i64 a0_4) := (blk_cell BK104.out 4).trans rfl; have hcz21_5 : w20.cell? ⟨gb104, 5, none⟩ = some (.int .i64 a0_5) := (blk_cell BK104.out 5).trans rfl; have hcz21_6 : w20.cell? ⟨gb104, 6, none⟩ = some (.int .i64 a0_6) := (blk_cell BK104.out 6).trans rfl; have hfz21_0 := blk_frozen BK104.out 0; have hfz21_1 := blk_frozen BK104.out 1; have hfz21_2 := blk_frozen BK104.out 2; have hfz21_3 := blk_frozen BK104.out 3; have hfz21_4 := blk_frozen BK104.out 4; have hfz21_5 := blk_frozen BK104.out 5; have hfz21_6 := blk_frozen BK104.out 6))
       go_meet
       case rel => exact ⟨_, (decide (a0_3 < 0)), (by first | rfl | (simp; done) | (simp [*]; done)), H', ⟨by first | omega | exact Nat.le_refl _⟩, ⟨by (with_reducible repeat (first | refine blk_drewN ?_ _ | refine blk_drew ?_ | refine blk_alloc ?_ _)); exact BK104.out⟩, ⟨by repeat (first | (with_reducible first | exact HB.out | apply below_alloc | apply pw_below_drewN | apply below_drew1 | refine below_set ?_ GE104.out) | exact HB.out)⟩⟩
      ·rw [if_neg c18] at H
       have c18b0 : (a0_0 == 4) = false := beq_eq_false_iff_ne.mpr c18
       have c18b1 : (a0_0 != 4) = true := bne_iff_ne.mpr c18
       have H' := Aside0.mk H
       clear H
       have hcz22_0 : w3.cell? ⟨gb104, 0, none⟩ = some (.int .i64 a0_0) := (blk_cell BK104.out 0).trans rfl
       have hcz22_1 : w3.cell? ⟨gb104, 1, none⟩ = some (.int .i64 a0_1) := (blk_cell BK104.out 1).trans rfl
       have hcz22_2 : w3.cell? ⟨gb104, 2, none⟩ = some (.int .i64 a0_2) := (blk_cell BK104.out 2).trans rfl
       have hcz22_3 : w3.cell? ⟨gb104, 3, none⟩ = some (.int .i64 a0_3) := (blk_cell BK104.out 3).trans rfl
       have hcz22_4 : w3.cell? ⟨gb104, 4, none⟩ = some (.int .i64 a0_4) := (blk_cell BK104.out 4).trans rfl
       have hcz22_5 : w3.cell? ⟨gb104, 5, none⟩ = some (.int .i64 a0_5) := (blk_cell BK104.out 5).trans rfl
       have hcz22_6 : w3.cell? ⟨gb104, 6, none⟩ = some (.int .i64 a0_6) := (blk_cell BK104.out 6).trans rfl
       have hfz22_0 := blk_frozen BK104.out 0
       have hfz22_1 := blk_frozen BK104.out 1
       have hfz22_2 := blk_frozen BK104.out 2
       have hfz22_3 := blk_frozen BK104.out 3
       have hfz22_4 := blk_frozen BK104.out 4
       have hfz22_5 := blk_frozen BK104.out 5
       have hfz22_6 := blk_frozen BK104.out 6
       go_wp2_with (first | ((with_reducible refine gate_callee (f := 11) rfl ?_); refine goesL_ (some 6) rfl rfl Tryd.func11 (by kernel_rfl) rfl #[.agg #[.int .i64 a0_0, .int .i64 a0_1, .int .i64 a0_2, .int .i64 a0_3, .int .i64 a0_4, .int .i64 a0_5, .int .i64 a0_6]] rfl (by (try simp only [List.map_toArray, List.map_cons, List.map_nil]); first | done | rfl | (simp only [List.length_drop, List.length_take]; rfl)) ?_; (with_reducible refine (knellref24_kind.calls k a0_0 a0_1 a0_2 a0_3 a0_4 a0_5 a0_6 true _ A4.out).mono ?_); rintro e w23 ⟨rfl, hb⟩; refine ⟨_, rfl, ?_⟩; have n0_ := Aside0.mk (blk_below (g := gb104) (o := .cells #[.int .i64 a0_0, .int .i64 a0_1, .int .i64 a0_2, .int .i64 a0_3, .int .i64 a0_4, .int .i64 a0_5, .int .i64 a0_6] 23 (0, 0)) (by (with_reducible repeat (first | refine blk_drewN ?_ _ | refine blk_drew ?_ | refine blk_alloc ?_ _)); exact BK104.out) hb); have n1_ := Aside0.mk (below_step (by repeat (first | (with_reducible first | exact HB.out | apply below_alloc | apply pw_below_drewN | apply below_drew1 | refine below_set ?_ GE104.out) | exact HB.out)) hb); clear BK104; clear HB; have BK104 := n0_; have HB := n1_; clear n0_ n1_; (try clear hb); (try clear hb2); (try clear hk); (try clear hi); have hcz24_0 : w23.cell? ⟨gb104, 0, none⟩ = some (.int .i64 a0_0) := (blk_cell BK104.out 0).trans rfl; have hcz24_1 : w23.cell? ⟨gb104, 1, none⟩ = some (.int .i64 a0_1) := (blk_cell BK104.out 1).trans rfl; have hcz24_2 : w23.cell? ⟨gb104, 2, none⟩ = some (.int .i64 a0_2) := (blk_cell BK104.out 2).trans rfl; have hcz24_3 : w23.cell? ⟨gb104, 3, none⟩ = some (.int .i64 a0_3) := (blk_cell BK104.out 3).trans rfl; have hcz24_4 : w23.cell? ⟨gb104, 4, none⟩ = some (.int .i64 a0_4) := (blk_cell BK104.out 4).trans rfl; have hcz24_5 : w23.cell? ⟨gb104, 5, none⟩ = some (.int .i64 a0_5) := (blk_cell BK104.out 5).trans rfl; have hcz24_6 : w23.cell? ⟨gb104, 6, none⟩ = some (.int .i64 a0_6) := (blk_cell BK104.out 6).trans rfl; have hfz24_0 := blk_frozen BK104.out 0; have hfz24_1 := blk_frozen BK104.out 1; have hfz24_2 := blk_frozen BK104.out 2; have hfz24_3 := blk_frozen BK104.out 3; have hfz24_4 := blk_frozen BK104.out 4; have hfz24_5 := blk_frozen BK104.out 5; have hfz24_6 := blk_frozen BK104.out 6))
       go_meet
       case rel => exact ⟨_, (false), (by first | rfl | (simp; done) | (simp [*]; done)), H', ⟨by first | omega | exact Nat.le_refl _⟩, ⟨by (with_reducible repeat (first | refine blk_drewN ?_ _ | refine blk_drew ?_ | refine blk_alloc ?_ _)); exact BK104.out⟩, ⟨by repeat (first | (with_reducible first | exact HB.out | apply below_alloc | apply pw_below_drewN | apply below_drew1 | refine below_set ?_ GE104.out) | exact HB.out)⟩⟩
  ·replace c5 := Bool.eq_false_iff.mpr c5
   subst c5
   have H1 : (knellref24_Right.j0 k true a0_0 a0_1 a0_2 a0_3 a0_4 a0_5 a0_6) = some r := by rw [if_neg (show ¬ (false = true) by decide)] at H; exact H
   clear H
   have H := H1
   clear H1
   have H' := Aside0.mk H
   clear H
   have hcz25_0 : w3.cell? ⟨gb104, 0, none⟩ = some (.int .i64 a0_0) := (blk_cell BK104.out 0).trans rfl
   have hcz25_1 : w3.cell? ⟨gb104, 1, none⟩ = some (.int .i64 a0_1) := (blk_cell BK104.out 1).trans rfl
   have hcz25_2 : w3.cell? ⟨gb104, 2, none⟩ = some (.int .i64 a0_2) := (blk_cell BK104.out 2).trans rfl
   have hcz25_3 : w3.cell? ⟨gb104, 3, none⟩ = some (.int .i64 a0_3) := (blk_cell BK104.out 3).trans rfl
   have hcz25_4 : w3.cell? ⟨gb104, 4, none⟩ = some (.int .i64 a0_4) := (blk_cell BK104.out 4).trans rfl
   have hcz25_5 : w3.cell? ⟨gb104, 5, none⟩ = some (.int .i64 a0_5) := (blk_cell BK104.out 5).trans rfl
   have hcz25_6 : w3.cell? ⟨gb104, 6, none⟩ = some (.int .i64 a0_6) := (blk_cell BK104.out 6).trans rfl
   have hfz25_0 := blk_frozen BK104.out 0
   have hfz25_1 := blk_frozen BK104.out 1
   have hfz25_2 := blk_frozen BK104.out 2
   have hfz25_3 := blk_frozen BK104.out 3
   have hfz25_4 := blk_frozen BK104.out 4
   have hfz25_5 := blk_frozen BK104.out 5
   have hfz25_6 := blk_frozen BK104.out 6
   go_wp2_with (first | ((with_reducible refine gate_callee (f := 11) rfl ?_); refine goesL_ (some 6) rfl rfl Tryd.func11 (by kernel_rfl) rfl #[.agg #[.int .i64 a0_0, .int .i64 a0_1, .int .i64 a0_2, .int .i64 a0_3, .int .i64 a0_4, .int .i64 a0_5, .int .i64 a0_6]] rfl (by (try simp only [List.map_toArray, List.map_cons, List.map_nil]); first | done | rfl | (simp only [List.length_drop, List.length_take]; rfl)) ?_; (with_reducible refine (knellref24_kind.calls k a0_0 a0_1 a0_2 a0_3 a0_4 a0_5 a0_6 false _ A4.out).mono ?_); rintro e w26 ⟨rfl, hb⟩; refine ⟨_, rfl, ?_⟩; have n0_ := Aside0.mk (blk_below (g := gb104) (o := .cells #[.int .i64 a0_0, .int .i64 a0_1, .int .i64 a0_2, .int .i64 a0_3, .int .i64 a0_4, .int .i64 a0_5, .int .i64 a0_6] 23 (0, 0)) (by (with_reducible repeat (first | refine blk_drewN ?_ _ | refine blk_drew ?_ | refine blk_alloc ?_ _)); exact BK104.out) hb); have n1_ := Aside0.mk (below_step (by repeat (first | (with_reducible first | exact HB.out | apply below_alloc | apply pw_below_drewN | apply below_drew1 | refine below_set ?_ GE104.out) | exact HB.out)) hb); clear BK104; clear HB; have BK104 := n0_; have HB := n1_; clear n0_ n1_; (try clear hb); (try clear hb2); (try clear hk); (try clear hi)))
   go_meet
   case rel => exact ⟨_, (true), (by first | rfl | (simp; done) | (simp [*]; done)), H', ⟨by first | omega | exact Nat.le_refl _⟩, ⟨by (with_reducible repeat (first | refine blk_drewN ?_ _ | refine blk_drew ?_ | refine blk_alloc ?_ _)); exact BK104.out⟩, ⟨by repeat (first | (with_reducible first | exact HB.out | apply below_alloc | apply pw_below_drewN | apply below_drew1 | refine below_set ?_ GE104.out) | exact HB.out)⟩⟩
 case rest =>
  clear HC2
  try clear c1
  try clear p2
  try clear c5
  try clear c6
  try clear c6b0
  try clear c10
  try clear c10b0
  try clear c11
  try clear c14
  try clear c14b0
  try clear c18
  try clear c18b0
  try clear c18b1
  try clear hcz11_0
  try clear hcz11_1
  try clear hcz11_2
  try clear hcz11_3
  try clear hcz11_4
  try clear hcz11_5
  try clear hcz11_6
  try clear hcz13_0
  try clear hcz13_1
  try clear hcz13_2
  try clear hcz13_3
  try clear hcz13_4
  try clear hcz13_5
  try clear hcz13_6
  try clear hcz15_0
  try clear hcz15_1
  try clear hcz15_2
  try clear hcz15_3
  try clear hcz15_4
  try clear hcz15_5
  try clear hcz15_6
  try clear hcz17_0
  try clear hcz17_1
  try clear hcz17_2
  try clear hcz17_3
  try clear hcz17_4
  try clear hcz17_5
  try clear hcz17_6
  try clear hcz19_0
  try clear hcz19_1
  try clear hcz19_2
  try clear hcz19_3
  try clear hcz19_4
  try clear hcz19_5
  try clear hcz19_6
  try clear hcz21_0
  try clear hcz21_1
  try clear hcz21_2
  try clear hcz21_3
  try clear hcz21_4
  try clear hcz21_5
  try clear hcz21_6
  try clear hcz22_0
  try clear hcz22_1
  try clear hcz22_2
  try clear hcz22_3
  try clear hcz22_4
  try clear hcz22_5
  try clear hcz22_6
  try clear hcz24_0
  try clear hcz24_1
  try clear hcz24_2
  try clear hcz24_3
  try clear hcz24_4
  try clear hcz24_5
  try clear hcz24_6
  try clear hcz25_0
  try clear hcz25_1
  try clear hcz25_2
  try clear hcz25_3
  try clear hcz25_4
  try clear hcz25_5
  try clear hcz25_6
  try clear hcz7_0
  try clear hcz7_1
  try clear hcz7_2
  try clear hcz7_3
  try clear hcz7_4
  try clear hcz7_5
  try clear hcz7_6
  try clear hcz9_0
  try clear hcz9_1
  try clear hcz9_2
  try clear hcz9_3
  try clear hcz9_4
  try clear hcz9_5
  try clear hcz9_6
  try clear hfz11_0
  try clear hfz11_1
  try clear hfz11_2
  try clear hfz11_3
  try clear hfz11_4
  try clear hfz11_5
  try clear hfz11_6
  try clear hfz13_0
  try clear hfz13_1
  try clear hfz13_2
  try clear hfz13_3
  try clear hfz13_4
  try clear hfz13_5
  try clear hfz13_6
  try clear hfz15_0
  try clear hfz15_1
  try clear hfz15_2
  try clear hfz15_3
  try clear hfz15_4
  try clear hfz15_5
  try clear hfz15_6
  try clear hfz17_0
  try clear hfz17_1
  try clear hfz17_2
  try clear hfz17_3
  try clear hfz17_4
  try clear hfz17_5
  try clear hfz17_6
  try clear hfz19_0
  try clear hfz19_1
  try clear hfz19_2
  try clear hfz19_3
  try clear hfz19_4
  try clear hfz19_5
  try clear hfz19_6
  try clear hfz21_0
  try clear hfz21_1
  try clear hfz21_2
  try clear hfz21_3
  try clear hfz21_4
  try clear hfz21_5
  try clear hfz21_6
  try clear hfz22_0
  try clear hfz22_1
  try clear hfz22_2
  try clear hfz22_3
  try clear hfz22_4
  try clear hfz22_5
  try clear hfz22_6
  try clear hfz24_0
  try clear hfz24_1
  try clear hfz24_2
  try clear hfz24_3
  try clear hfz24_4
  try clear hfz24_5
  try clear hfz24_6
  try clear hfz25_0
  try clear hfz25_1
  try clear hfz25_2
  try clear hfz25_3
  try clear hfz25_4
  try clear hfz25_5
  try clear hfz25_6
  try clear hfz7_0
  try clear hfz7_1
  try clear hfz7_2
  try clear hfz7_3
  try clear hfz7_4
  try clear hfz7_5
  try clear hfz7_6
  try clear hfz9_0
  try clear hfz9_1
  try clear hfz9_2
  try clear hfz9_3
  try clear hfz9_4
  try clear hfz9_5
  try clear hfz9_6
  obtain ⟨kq, x32_1, rfl, HA, HJ1, BK104, HB⟩ := hcut
  cases kq with
  | zero => exact absurd HA.out (by simp [knellref24_Right.j0])
  | succ kj1 =>
   have H := HA.out
   clear HA
   simp only [knellref24_Right.j0] at H
   by_cases c27 : x32_1 = true
   ·subst c27
    have H1 : (some false) = some r := by rw [if_pos rfl] at H; exact H
    clear H
    have H := H1
    clear H1
    obtain rfl := Option.some.inj H
    go_wp2
    go_ret
    exact ⟨by first | rfl | (simp [errW_none, errW_some] <;> rfl) | (simp [*, errW_none, errW_some] <;> rfl), by repeat (first | (with_reducible first | exact HB.out | apply below_alloc | apply pw_below_drewN | apply below_drew1 | refine below_set ?_ GE104.out) | exact HB.out)⟩
   ·replace c27 := Bool.eq_false_iff.mpr c27
    subst c27
    have H1 : (knellref24_Right.l0 kj1 (([a0_1, a0_3, a0_4, a0_5, a0_6] : List Int)) 0 a0_0 a0_1 a0_2 a0_3 a0_4 a0_5 a0_6) = some r := by rw [if_neg (show ¬ (false = true) by decide)] at H; exact H
    clear H
    have H := H1
    clear H1
    obtain ⟨y106, hy106⟩ : ∃ y_ : List Int, y_ = (([a0_1, a0_3, a0_4, a0_5, a0_6] : List Int)) := ⟨_, rfl⟩
    replace H : (knellref24_Right.l0 kj1 y106 0 a0_0 a0_1 a0_2 a0_3 a0_4 a0_5 a0_6) = some r := by first | (rw [hy106]; with_reducible exact H) | (have H2_ := (Option.bind_some _ _).symm.trans H; rw [hy106]; with_reducible exact H2_) | (have H2_ := (Option.bind_some _ _).symm.trans H; with_reducible exact H2_) | with_reducible exact H | (rw [hy106]; exact H) | exact H
    have Ny106 := Aside0.mk hy106
    clear hy106
    have H' := Aside0.mk H
    clear H
    have hcz28_0 : wc.cell? ⟨gb104, 0, none⟩ = some (.int .i64 a0_0) := (blk_cell BK104.out 0).trans rfl
    have hcz28_1 : wc.cell? ⟨gb104, 1, none⟩ = some (.int .i64 a0_1) := (blk_cell BK104.out 1).trans rfl
    have hcz28_2 : wc.cell? ⟨gb104, 2, none⟩ = some (.int .i64 a0_2) := (blk_cell BK104.out 2).trans rfl
    have hcz28_3 : wc.cell? ⟨gb104, 3, none⟩ = some (.int .i64 a0_3) := (blk_cell BK104.out 3).trans rfl
    have hcz28_4 : wc.cell? ⟨gb104, 4, none⟩ = some (.int .i64 a0_4) := (blk_cell BK104.out 4).trans rfl
    have hcz28_5 : wc.cell? ⟨gb104, 5, none⟩ = some (.int .i64 a0_5) := (blk_cell BK104.out 5).trans rfl
    have hcz28_6 : wc.cell? ⟨gb104, 6, none⟩ = some (.int .i64 a0_6) := (blk_cell BK104.out 6).trans rfl
    have hfz28_0 := blk_frozen BK104.out 0
    have hfz28_1 := blk_frozen BK104.out 1
    have hfz28_2 := blk_frozen BK104.out 2
    have hfz28_3 := blk_frozen BK104.out 3
    have hfz28_4 := blk_frozen BK104.out 4
    have hfz28_5 := blk_frozen BK104.out 5
    have hfz28_6 := blk_frozen BK104.out 6
    go_wp2_with (first | ((with_reducible refine gate_dst (N := 43) rfl ?_); refine Kd.R_lit (Kd.int .i64) _ 3 ?hg (N := 43) ?hd (xs := ([a0_1, a0_3, a0_4, a0_5, a0_6] : List Int)) (inner := [.int .i64 a0_1, .int .i64 a0_3, .int .i64 a0_4, .int .i64 a0_5, .int .i64 a0_6]) (ok := fun _ => True) (okp := fun _ => True) ?hr ?hp (fun _ hk => hk) trivial (Below.refl _ _) (Nat.le_refl _) (by simp) ?_; (case hd => rfl); (case hg => rfl); (case hr => first | (go_simp; done) | (go_simp; rfl)); (case hp => exact (Reps.one (show Kd.M (Kd.int .i64) _ _ _ a0_1 [.int .i64 a0_1] from rfl) (Reps.one (show Kd.M (Kd.int .i64) _ _ _ a0_3 [.int .i64 a0_3] from rfl) (Reps.one (show Kd.M (Kd.int .i64) _ _ _ a0_4 [.int .i64 a0_4] from rfl) (Reps.one (show Kd.M (Kd.int .i64) _ _ _ a0_5 [.int .i64 a0_5] from rfl) (Reps.one (show Kd.M (Kd.int .i64) _ _ _ a0_6 [.int .i64 a0_6] from rfl) (Reps.none _ _))))))); intro v107 w29 ho30 hb hg_ hnew_; clear hg_ hnew_; (first | rw [← Ny106.out] at ho30 | (simp only [Int.reduceToNat] at ho30; rw [← Ny106.out] at ho30)); have n0_ := Aside0.mk (Kd.R_lower ho30 (below_size (by repeat (first | (with_reducible first | exact HB.out | apply below_alloc | apply pw_below_drewN | apply below_drew1 | refine below_set ?_ GE104.out) | exact HB.out)))); have n1_ := Aside0.mk (blk_below (g := gb104) (o := .cells #[.int .i64 a0_0, .int .i64 a0_1, .int .i64 a0_2, .int .i64 a0_3, .int .i64 a0_4, .int .i64 a0_5, .int .i64 a0_6] 23 (0, 0)) (by (with_reducible repeat (first | refine blk_drewN ?_ _ | refine blk_drew ?_ | refine blk_alloc ?_ _)); exact BK104.out) hb); have n2_ := Aside0.mk (below_step (by repeat (first | (with_reducible first | exact HB.out | apply below_alloc | apply pw_below_drewN | apply below_drew1 | refine below_set ?_ GE104.out) | exact HB.out)) hb); clear BK104; clear HB; have HO108 := n0_; have BK104 := n1_; have HB := n2_; clear n0_ n1_ n2_; clear hb ho30))
    go_loopg [4] kj1 (fun kq v4 w' => ∃ (x4_2 : Int), v4 = .int .i64 x4_2 ∧ Aside0 (knellref24_Right.l0 kq y106 x4_2 a0_0 a0_1 a0_2 a0_3 a0_4 a0_5 a0_6 = some r) ∧ Aside0 (kq ≤ kj1) ∧ Aside0 (Kd.R (Kd.int .i64) 3 w' w.heap.size (fun _ => True) v107 y106) ∧ Aside0 (w'.heap[gb104]? = some (.cells #[.int .i64 a0_0, .int .i64 a0_1, .int .i64 a0_2, .int .i64 a0_3, .int .i64 a0_4, .int .i64 a0_5, .int .i64 a0_6] 23 (0, 0))) ∧ Aside0 (Below w.heap.size w w'))
    case atStart => exact ⟨(0), (by first | rfl | (simp; done) | (simp [*]; done)), H', ⟨Nat.le_refl _⟩, ⟨by (with_reducible repeat (first | apply Kd.R_alloc | apply Kd.R_drewN | apply Kd.R_drew)); exact HO108.out⟩, ⟨by (with_reducible repeat (first | refine blk_drewN ?_ _ | refine blk_drew ?_ | refine blk_alloc ?_ _)); exact BK104.out⟩, ⟨by repeat (first | (with_reducible first | exact HB.out | apply below_alloc | apply pw_below_drewN | apply below_drew1 | refine below_set ?_ GE104.out) | exact HB.out)⟩⟩
    case round =>
     clear H'
     try clear c1
     try clear c2
     try clear p2
     try clear c5
     try clear c6
     try clear c6b0
     try clear c10
     try clear c10b0
     try clear c11
     try clear c14
     try clear c14b0
     try clear c18
     try clear c18b0
     try clear c18b1
     try clear c27
     try clear hcz11_0
     try clear hcz11_1
     try clear hcz11_2
     try clear hcz11_3
     try clear hcz11_4
     try clear hcz11_5
     try clear hcz11_6
     try clear hcz13_0
     try clear hcz13_1
     try clear hcz13_2
     try clear hcz13_3
     try clear hcz13_4
     try clear hcz13_5
     try clear hcz13_6
     try clear hcz15_0
     try clear hcz15_1
     try clear hcz15_2
     try clear hcz15_3
     try clear hcz15_4
     try clear hcz15_5
     try clear hcz15_6
     try clear hcz17_0
     try clear hcz17_1
     try clear hcz17_2
     try clear hcz17_3
     try clear hcz17_4
     try clear hcz17_5
     try clear hcz17_6
     try clear hcz19_0
     try clear hcz19_1
     try clear hcz19_2
     try clear hcz19_3
     try clear hcz19_4
     try clear hcz19_5
     try clear hcz19_6
     try clear hcz21_0
     try clear hcz21_1
     try clear hcz21_2
     try clear hcz21_3
     try clear hcz21_4
     try clear hcz21_5
     try clear hcz21_6
     try clear hcz22_0
     try clear hcz22_1
     try clear hcz22_2
     try clear hcz22_3
     try clear hcz22_4
     try clear hcz22_5
     try clear hcz22_6
     try clear hcz24_0
     try clear hcz24_1
     try clear hcz24_2
     try clear hcz24_3
     try clear hcz24_4
     try clear hcz24_5
     try clear hcz24_6
     try clear hcz25_0
     try clear hcz25_1
     try clear hcz25_2
     try clear hcz25_3
     try clear hcz25_4
     try clear hcz25_5
     try clear hcz25_6
     try clear hcz28_0
     try clear hcz28_1
     try clear hcz28_2
     try clear hcz28_3
     try clear hcz28_4
     try clear hcz28_5
     try clear hcz28_6
     try clear hcz7_0
     try clear hcz7_1
     try clear hcz7_2
     try clear hcz7_3
     try clear hcz7_4
     try clear hcz7_5
     try clear hcz7_6
     try clear hcz9_0
     try clear hcz9_1
     try clear hcz9_2
     try clear hcz9_3
     try clear hcz9_4
     try clear hcz9_5
     try clear hcz9_6
     try clear hfz11_0
     try clear hfz11_1
     try clear hfz11_2
     try clear hfz11_3
     try clear hfz11_4
     try clear hfz11_5
     try clear hfz11_6
     try clear hfz13_0
     try clear hfz13_1
     try clear hfz13_2
     try clear hfz13_3
     try clear hfz13_4
     try clear hfz13_5
     try clear hfz13_6
     try clear hfz15_0
     try clear hfz15_1
     try clear hfz15_2
     try clear hfz15_3
     try clear hfz15_4
     try clear hfz15_5
     try clear hfz15_6
     try clear hfz17_0
     try clear hfz17_1
     try clear hfz17_2
     try clear hfz17_3
     try clear hfz17_4
     try clear hfz17_5
     try clear hfz17_6
     try clear hfz19_0
     try clear hfz19_1
     try clear hfz19_2
     try clear hfz19_3
     try clear hfz19_4
     try clear hfz19_5
     try clear hfz19_6
     try clear hfz21_0
     try clear hfz21_1
     try clear hfz21_2
     try clear hfz21_3
     try clear hfz21_4
     try clear hfz21_5
     try clear hfz21_6
     try clear hfz22_0
     try clear hfz22_1
     try clear hfz22_2
     try clear hfz22_3
     try clear hfz22_4
     try clear hfz22_5
     try clear hfz22_6
     try clear hfz24_0
     try clear hfz24_1
     try clear hfz24_2
     try clear hfz24_3
     try clear hfz24_4
     try clear hfz24_5
     try clear hfz24_6
     try clear hfz25_0
     try clear hfz25_1
     try clear hfz25_2
     try clear hfz25_3
     try clear hfz25_4
     try clear hfz25_5
     try clear hfz25_6
     try clear hfz28_0
     try clear hfz28_1
     try clear hfz28_2
     try clear hfz28_3
     try clear hfz28_4
     try clear hfz28_5
     try clear hfz28_6
     try clear hfz7_0
     try clear hfz7_1
     try clear hfz7_2
     try clear hfz7_3
     try clear hfz7_4
     try clear hfz7_5
     try clear hfz7_6
     try clear hfz9_0
     try clear hfz9_1
     try clear hfz9_2
     try clear hfz9_3
     try clear hfz9_4
     try clear hfz9_5
     try clear hfz9_6
     try clear p2
     obtain ⟨x4_2, rfl, HA, HK2, HO_3, BK104, HB⟩ := hrel
     cases gk with
     | zero => exact absurd HA.out (by simp [knellref24_Right.l0])
     | succ k2 =>
      have H := HA.out
      clear HA
      simp only [knellref24_Right.l0] at H
      by_cases c31 : x4_2 < 5
      ·rw [if_pos c31] at H
       have c31b0 : decide (x4_2 < 5) = true := decide_eq_true c31
       clear c31
       by_cases c32 : 0 ≤ x4_2
       ·rw [if_pos c32] at H
        have c32b0 : decide (0 ≤ x4_2) = true := decide_eq_true c32
        clear c32
        by_cases c33 : x4_2 < (y106.length : Int)
        ·rw [if_pos c33] at H
         have c33b0 : decide (x4_2 < (y106.length : Int)) = true := decide_eq_true c33
         clear c33
         by_cases c34 : (rd y106 x4_2) = 0
         ·rw [if_pos c34] at H
          have c34b0 : ((rd y106 x4_2) == 0) = true := beq_iff_eq.mpr c34
          have c34b1 : ((rd y106 x4_2) != 0) = false := bne_eq_false_iff_eq.mpr c34
          clear c34
          have H' := Aside0.mk H
          clear H
          try go_wp2
          have n0_ := Aside0.mk (Kd.R_drew HO_3.out)
          have n1_ := Aside0.mk (blk_drew BK104.out)
          have n2_ := Aside0.mk (below_drew1 HB.out)
          clear HO_3
          clear BK104
          clear HB
          have HO_3 := n0_
          have BK104 := n1_
          have HB := n2_
          clear n0_ n1_ n2_
          obtain ⟨Ao36, co36, eo36⟩ := Kd.R_slice HO_3.out
          (first | subst eo36 | (injection eo36 with f1_ f2_ f3_; have f4_ := f1_.symm; have f5_ := f3_.symm; clear f1_ f2_ f3_; subst f4_; subst f5_))
          have p109 : 0 ≤ (x4_2 : Int) := of_decide_eq_true (by first | (with_reducible assumption) | assumption)
          have q109 : x4_2 < (y106.length : Int) := of_decide_eq_true (by first | (with_reducible assumption) | assumption)
          obtain ⟨ad109, e109, hx109_0⟩ := Kd.at_int (Kd.R_reads' HO_3.out).2.2 x4_2 p109 q109
          cases e109
          replace p109 := eq_true p109
          replace q109 := eq_true q109
          refine start_ (n := 12) (S := fun w' => w'.cell? (ad109.add (x4_2).toNat) = some (.int .i64 (rd y106 x4_2))) (ds := []) #[ff,ff,ff,ff,ff,ff,ff,ff,ff,ff,ff,ff] (by kernel_rfl) rfl rfl (hx109_0) (fun hHeld => ?_); refine with_tabW knellref24_Right.tab7 knellref24_Right.bits7 (fun HT_ HW_ => ?_)
          generalize wr.drew = w35 at HO_3 BK104 HB hx109_0 hHeld ⊢
          refine pure_ (i := 0) (N := some 48) (v := ?_) (a' := ?_) #[tt,ff,ff,ff,ff,ff,ff,ff,ff,ff,ff,ff] rfl rfl (any_of HT_.out (by kernel_rfl)) (fun _ _ _ h => h) (Or.inl ⟨by rfl, ?_⟩) ?_ ?_
          rotate_left
          ·intro w'
           go_simp
           with_reducible rfl
          rotate_left
          ·simp only [Act.put, sQ0, sQ1, sQ2, i64_w]
           rfl
          refine pure_ (i := 1) (N := some 49) (v := ?_) (a' := ?_) #[tt,tt,ff,ff,ff,ff,ff,ff,ff,ff,ff,ff] rfl rfl (any_of HT_.out (by kernel_rfl)) (fun _ _ _ h => h) (Or.inl ⟨by rfl, ?_⟩) ?_ ?_
          rotate_left
          ·intro w'
           go_simp
           with_reducible rfl
          rotate_left
          ·simp only [Act.put, sQ0, sQ1, sQ2, i64_w]
           rfl
          refine pure_ (i := 2) (N := some 50) (v := ?_) (a' := ?_) #[tt,tt,tt,ff,ff,ff,ff,ff,ff,ff,ff,ff] rfl rfl (any_of HT_.out (by kernel_rfl)) (fun _ _ _ h => h) (Or.inl ⟨by rfl, ?_⟩) ?_ ?_
          rotate_left
          ·intro w'
           go_simp
           with_reducible rfl
          rotate_left
          ·simp only [Act.put, sQ0, sQ1, sQ2, i64_w]
           rfl
          refine take_ (i := 3) (N := some 51) (v := ?_) (a' := ?_) #[tt,tt,tt,tt,ff,ff,ff,ff,ff,ff,ff,ff] rfl rfl (take_ofW HT_.out HW_.out (by kernel_rfl)) (fun _ _ _ h => h) (Or.inl ⟨by rfl, ?_⟩) hHeld ?_ ?_
          rotate_left
          ·intro w' s0
           go_simp
           with_reducible rfl
          rotate_left
          ·simp only [Act.put, sQ0, sQ1, sQ2, i64_w]
           rfl
          refine pure_ (i := 4) (N := some 52) (v := ?_) (a' := ?_) #[tt,tt,tt,tt,tt,ff,ff,ff,ff,ff,ff,ff] rfl rfl (any_of HT_.out (by kernel_rfl)) (fun _ _ _ h => h) (Or.inl ⟨by rfl, ?_⟩) ?_ ?_
          rotate_left
          ·intro w'
           go_simp
           with_reducible rfl
          rotate_left
          ·simp only [Act.put, sQ0, sQ1, sQ2, i64_w]
           rfl
          refine pure_ (i := 5) (N := some 53) (v := ?_) (a' := ?_) #[tt,tt,tt,tt,tt,tt,ff,ff,ff,ff,ff,ff] rfl rfl (any_of HT_.out (by kernel_rfl)) (fun _ _ _ h => h) (Or.inl ⟨by rfl, ?_⟩) ?_ ?_
          rotate_left
          ·intro w'
           go_simp
           with_reducible rfl
          rotate_left
          ·simp only [Act.put, sQ0, sQ1, sQ2, i64_w]
           rfl
          refine pure_ (i := 6) (N := some 54) (v := undef) (a' := ?_) #[tt,tt,tt,tt,tt,tt,tt,ff,ff,ff,ff,ff] rfl rfl (any_of HT_.out (by kernel_rfl)) (fun _ _ _ h => h) (Or.inr ⟨by rfl, rfl⟩) ?_ ?_
          rotate_left
          ·simp only [Act.put, sQ0, sQ1, sQ2, i64_w]
           rfl
          refine pure_ (i := 7) (N := some 55) (v := undef) (a' := ?_) #[tt,tt,tt,tt,tt,tt,tt,tt,ff,ff,ff,ff] rfl rfl (any_of HT_.out (by kernel_rfl)) (fun _ _ _ h => h) (Or.inr ⟨by rfl, rfl⟩) ?_ ?_
          rotate_left
          ·simp only [Act.put, sQ0, sQ1, sQ2, i64_w]
           rfl
          refine pure_ (i := 8) (N := some 56) (v := undef) (a' := ?_) #[tt,tt,tt,tt,tt,tt,tt,tt,tt,ff,ff,ff] rfl rfl (any_of HT_.out (by kernel_rfl)) (fun _ _ _ h => h) (Or.inr ⟨by rfl, rfl⟩) ?_ ?_
          rotate_left
          ·simp only [Act.put, sQ0, sQ1, sQ2, i64_w]
           rfl
          refine pure_ (i := 9) (N := some 57) (v := undef) (a' := ?_) #[tt,tt,tt,tt,tt,tt,tt,tt,tt,tt,ff,ff] rfl rfl (any_of HT_.out (by kernel_rfl)) (fun _ _ _ h => h) (Or.inr ⟨by rfl, rfl⟩) ?_ ?_
          rotate_left
          ·simp only [Act.put, sQ0, sQ1, sQ2, i64_w]
           rfl
          refine pure_ (i := 10) (N := some 58) (v := undef) (a' := ?_) #[tt,tt,tt,tt,tt,tt,tt,tt,tt,tt,tt,ff] rfl rfl (any_of HT_.out (by kernel_rfl)) (fun _ _ _ h => h) (Or.inr ⟨by rfl, rfl⟩) ?_ ?_
          rotate_left
          ·simp only [Act.put, sQ0, sQ1, sQ2, i64_w]
           rfl
          refine pure_ (i := 11) (N := some 59) (v := ?_) (a' := ?_) #[tt,tt,tt,tt,tt,tt,tt,tt,tt,tt,tt,tt] rfl rfl (any_of HT_.out (by kernel_rfl)) (fun _ _ _ h => h) (Or.inl ⟨by rfl, ?_⟩) ?_ ?_
          rotate_left
          ·intro w'
           go_simp
           with_reducible rfl
          rotate_left
          ·simp only [Act.put, sQ0, sQ1, sQ2, i64_w]
           rfl
          refine done_ (done_of HT_.out (by kernel_rfl)) ?_
          try go_wp2
          go_roundg k2
          case measure => have := HJ1.out; have := HK2.out; omega
          case rel => exact ⟨(wrap64 (x4_2 + 1)), (by first | rfl | (simp; done) | (simp [*]; done)), H', ⟨by have := HJ1.out; have := HK2.out; omega⟩, ⟨by (with_reducible repeat (first | apply Kd.R_alloc | apply Kd.R_drewN | apply Kd.R_drew)); exact HO_3.out⟩, ⟨by (with_reducible repeat (first | refine blk_drewN ?_ _ | refine blk_drew ?_ | refine blk_alloc ?_ _)); exact BK104.out⟩, ⟨by repeat (first | (with_reducible first | exact HB.out | apply below_alloc | apply pw_below_drewN | apply below_drew1 | refine below_set ?_ GE104.out) | exact HB.out)⟩⟩
         ·rw [if_neg c34] at H
          have c34b0 : ((rd y106 x4_2) == 0) = false := beq_eq_false_iff_ne.mpr c34
          have c34b1 : ((rd y106 x4_2) != 0) = true := bne_iff_ne.mpr c34
          replace H := Option.bind_eq_some_iff.mp H
          obtain ⟨t110, A380, H⟩ := H
          replace H : (if t110 = true then (knellref24_Right.l0 k2 y106 (wrap64 (x4_2 + 1)) a0_0 a0_1 a0_2 a0_3 a0_4 a0_5 a0_6) else (some false)) = some r := H
          have A38 := Aside0.mk A380
          clear A380
          by_cases c39 : t110 = true
          ·subst c39
           have H1 : (knellref24_Right.l0 k2 y106 (wrap64 (x4_2 + 1)) a0_0 a0_1 a0_2 a0_3 a0_4 a0_5 a0_6) = some r := by rw [if_pos rfl] at H; exact H
           clear H
           have H := H1
           clear H1
           have H' := Aside0.mk H
           clear H
           try go_wp2
           have n0_ := Aside0.mk (Kd.R_drew HO_3.out)
           have n1_ := Aside0.mk (blk_drew BK104.out)
           have n2_ := Aside0.mk (below_drew1 HB.out)
           clear HO_3
           clear BK104
           clear HB
           have HO_3 := n0_
           have BK104 := n1_
           have HB := n2_
           clear n0_ n1_ n2_
           obtain ⟨Ao41, co41, eo41⟩ := Kd.R_slice HO_3.out
           (first | subst eo41 | (injection eo41 with f1_ f2_ f3_; have f4_ := f1_.symm; have f5_ := f3_.symm; clear f1_ f2_ f3_; subst f4_; subst f5_))
           have p109 : 0 ≤ (x4_2 : Int) := of_decide_eq_true (by first | (with_reducible assumption) | assumption)
           have q109 : x4_2 < (y106.length : Int) := of_decide_eq_true (by first | (with_reducible assumption) | assumption)
           obtain ⟨ad109, e109, hx109_0⟩ := Kd.at_int (Kd.R_reads' HO_3.out).2.2 x4_2 p109 q109
           cases e109
           replace p109 := eq_true p109
           replace q109 := eq_true q109
           have p37 : 0 ≤ (x4_2 : Int) := of_decide_eq_true (by first | (with_reducible assumption) | assumption)
           have q37 : x4_2 < (5 : Int) := of_decide_eq_true (by first | (with_reducible assumption) | assumption)
           have hx37 := bt_at (⟨#[119, 99, 116, 100, 101]⟩ : ByteArray) x4_2
           replace p37 := eq_true p37
           replace q37 := eq_true q37
           refine start_ (n := 12) (S := fun w' => w'.cell? ⟨gb104, 0, none⟩ = some (.int .i64 a0_0) ∧ w'.cell? ⟨gb104, 1, none⟩ = some (.int .i64 a0_1) ∧ w'.cell? ⟨gb104, 2, none⟩ = some (.int .i64 a0_2) ∧ w'.cell? ⟨gb104, 3, none⟩ = some (.int .i64 a0_3) ∧ w'.cell? ⟨gb104, 4, none⟩ = some (.int .i64 a0_4) ∧ w'.cell? ⟨gb104, 5, none⟩ = some (.int .i64 a0_5) ∧ w'.cell? ⟨gb104, 6, none⟩ = some (.int .i64 a0_6) ∧ w'.cell? (ad109.add (x4_2).toNat) = some (.int .i64 (rd y106 x4_2))) (ds := []) #[ff,ff,ff,ff,ff,ff,ff,ff,ff,ff,ff,ff] (by kernel_rfl) rfl rfl ⟨(blk_cell BK104.out 0).trans rfl, (blk_cell BK104.out 1).trans rfl, (blk_cell BK104.out 2).trans rfl, (blk_cell BK104.out 3).trans rfl, (blk_cell BK104.out 4).trans rfl, (blk_cell BK104.out 5).trans rfl, (blk_cell BK104.out 6).trans rfl, hx109_0⟩ (fun hHeld => ?_); refine with_tabW knellref24_Right.tab7 knellref24_Right.bits7 (fun HT_ HW_ => ?_)
           generalize wr.drew = w40 at HO_3 BK104 HB hx109_0 hHeld ⊢
           refine pure_ (i := 0) (N := some 48) (v := ?_) (a' := ?_) #[tt,ff,ff,ff,ff,ff,ff,ff,ff,ff,ff,ff] rfl rfl (any_of HT_.out (by kernel_rfl)) (fun _ _ _ h => h) (Or.inl ⟨by rfl, ?_⟩) ?_ ?_
           rotate_left
           ·intro w'
            go_simp
            with_reducible rfl
           rotate_left
           ·simp only [Act.put, sQ0, sQ1, sQ2, i64_w]
            rfl
           refine pure_ (i := 1) (N := some 49) (v := ?_) (a' := ?_) #[tt,tt,ff,ff,ff,ff,ff,ff,ff,ff,ff,ff] rfl rfl (any_of HT_.out (by kernel_rfl)) (fun _ _ _ h => h) (Or.inl ⟨by rfl, ?_⟩) ?_ ?_
           rotate_left
           ·intro w'
            go_simp
            with_reducible rfl
           rotate_left
           ·simp only [Act.put, sQ0, sQ1, sQ2, i64_w]
            rfl
           refine pure_ (i := 2) (N := some 50) (v := ?_) (a' := ?_) #[tt,tt,tt,ff,ff,ff,ff,ff,ff,ff,ff,ff] rfl rfl (any_of HT_.out (by kernel_rfl)) (fun _ _ _ h => h) (Or.inl ⟨by rfl, ?_⟩) ?_ ?_
           rotate_left
           ·intro w'
            go_simp
            with_reducible rfl
           rotate_left
           ·simp only [Act.put, sQ0, sQ1, sQ2, i64_w]
            rfl
           refine take_ (i := 3) (N := some 51) (v := ?_) (a' := ?_) #[tt,tt,tt,tt,ff,ff,ff,ff,ff,ff,ff,ff] rfl rfl (take_ofW HT_.out HW_.out (by kernel_rfl)) (fun _ _ _ h => h) (Or.inl ⟨by rfl, ?_⟩) hHeld ?_ ?_
           rotate_left
           ·rintro w' ⟨s0, s1, s2, s3, s4, s5, s6, s7⟩
            go_simp
            with_reducible rfl
           rotate_left
           ·simp only [Act.put, sQ0, sQ1, sQ2, i64_w]
            rfl
           refine pure_ (i := 4) (N := some 52) (v := ?_) (a' := ?_) #[tt,tt,tt,tt,tt,ff,ff,ff,ff,ff,ff,ff] rfl rfl (any_of HT_.out (by kernel_rfl)) (fun _ _ _ h => h) (Or.inl ⟨by rfl, ?_⟩) ?_ ?_
           rotate_left
           ·intro w'
            go_simp
            with_reducible rfl
           rotate_left
           ·simp only [Act.put, sQ0, sQ1, sQ2, i64_w]
            rfl
           refine pure_ (i := 5) (N := some 53) (v := ?_) (a' := ?_) #[tt,tt,tt,tt,tt,tt,ff,ff,ff,ff,ff,ff] rfl rfl (any_of HT_.out (by kernel_rfl)) (fun _ _ _ h => h) (Or.inl ⟨by rfl, ?_⟩) ?_ ?_
           rotate_left
           ·intro w'
            go_simp
            with_reducible rfl
           rotate_left
           ·simp only [Act.put, sQ0, sQ1, sQ2, i64_w]
            rfl
           refine pure_ (i := 7) (N := some 55) (v := ?_) (a' := ?_) #[tt,tt,tt,tt,tt,tt,ff,tt,ff,ff,ff,ff] rfl rfl (any_of HT_.out (by kernel_rfl)) (fun _ _ _ h => h) (Or.inl ⟨by rfl, ?_⟩) ?_ ?_
           rotate_left
           ·intro w'
            go_simp
            with_reducible rfl
           rotate_left
           ·simp only [Act.put, sQ0, sQ1, sQ2, i64_w]
            rfl
           refine take_ (i := 6) (N := some 54) (v := ?_) (a' := ?_) #[tt,tt,tt,tt,tt,tt,tt,tt,ff,ff,ff,ff] rfl rfl (take_ofW HT_.out HW_.out (by kernel_rfl)) (fun _ _ _ h => h) (Or.inl ⟨by rfl, ?_⟩) hHeld ?_ ?_
           rotate_left
           ·rintro w' ⟨s0, s1, s2, s3, s4, s5, s6, s7⟩
            go_simp
            with_reducible rfl
           rotate_left
           ·simp only [Act.put, sQ0, sQ1, sQ2, i64_w]
            rfl
           refine take_ (i := 8) (N := some 56) (v := ?_) (a' := ?_) #[tt,tt,tt,tt,tt,tt,tt,tt,tt,ff,ff,ff] rfl rfl (take_ofW HT_.out HW_.out (by kernel_rfl)) (fun _ _ _ h => h) (Or.inl ⟨by rfl, ?_⟩) hHeld ?_ ?_
           rotate_left
           ·rintro w' ⟨s0, s1, s2, s3, s4, s5, s6, s7⟩
            go_simp
            with_reducible rfl
           rotate_left
           ·simp only [Act.put, sQ0, sQ1, sQ2, i64_w]
            rfl
           refine one_ (i := 9) (N := some 57) #[tt,tt,tt,tt,tt,tt,tt,tt,tt,tt,ff,ff] rfl rfl (one_of HT_.out (by kernel_rfl)) (by decide) (fun K hK => ?_)
           refine goes_ Tryd.func12 (by kernel_rfl) rfl #[.agg #[.int .i64 a0_0, .int .i64 a0_1, .int .i64 a0_2, .int .i64 a0_3, .int .i64 a0_4, .int .i64 a0_5, .int .i64 a0_6], .int .u8 (bt (⟨#[119, 99, 116, 100, 101]⟩ : ByteArray) x4_2)] (by rfl) rfl rfl (by (try simp only [List.map_toArray, List.map_cons, List.map_nil]); first | done | rfl | (simp only [List.length_drop, List.length_take]; rfl)) ?_
           with_reducible refine (knellref24_Has.calls k2 a0_0 a0_1 a0_2 a0_3 a0_4 a0_5 a0_6 (bt (⟨#[119, 99, 116, 100, 101]⟩ : ByteArray) x4_2) true _ A38.out).mono ?_
           rintro e w42 ⟨rfl, hb⟩
           have HS7_ := (hb.cell (World.block_lt_of_cell? _ _ (hHeld.2.2.2.2.2.2.2))).trans (hHeld.2.2.2.2.2.2.2)
           refine ⟨_, rfl, ?_⟩
           have n0_ := Aside0.mk (Kd.R_below (by (with_reducible repeat (first | apply Kd.R_alloc | apply Kd.R_drewN | apply Kd.R_drew)); exact HO_3.out) hb)
           have n1_ := Aside0.mk (blk_below (g := gb104) (o := .cells #[.int .i64 a0_0, .int .i64 a0_1, .int .i64 a0_2, .int .i64 a0_3, .int .i64 a0_4, .int .i64 a0_5, .int .i64 a0_6] 23 (0, 0)) (by (with_reducible repeat (first | refine blk_drewN ?_ _ | refine blk_drew ?_ | refine blk_alloc ?_ _)); exact BK104.out) hb)
           have n2_ := Aside0.mk (below_step (by repeat (first | (with_reducible first | exact HB.out | apply below_alloc | apply pw_below_drewN | apply below_drew1 | refine below_set ?_ GE104.out) | exact HB.out)) hb)
           clear HO_3
           clear BK104
           clear HB
           have HO_3 := n0_
           have BK104 := n1_
           have HB := n2_
           clear n0_ n1_ n2_
           (try clear hb)
           (try clear hb2)
           (try clear hk)
           (try clear hi)
           refine hK.out _ _ ⟨(blk_cell BK104.out 0).trans rfl, (blk_cell BK104.out 1).trans rfl, (blk_cell BK104.out 2).trans rfl, (blk_cell BK104.out 3).trans rfl, (blk_cell BK104.out 4).trans rfl, (blk_cell BK104.out 5).trans rfl, (blk_cell BK104.out 6).trans rfl, HS7_⟩ (fun hHeld => ?_)
           clear hK K
           refine norm_ (a' := ?_) ?_ ?_
           rotate_left
           ·show Act.put _ (some 57) _ = _
            simp only [Act.put, sQ0, sQ1, sQ2, i64_w]
            rfl
           refine pure_ (i := 10) (N := some 58) (v := ?_) (a' := ?_) #[tt,tt,tt,tt,tt,tt,tt,tt,tt,tt,tt,ff] rfl rfl (any_of HT_.out (by kernel_rfl)) (fun _ _ _ h => h) (Or.inl ⟨by rfl, ?_⟩) ?_ ?_
           rotate_left
           ·intro w'
            go_simp
            with_reducible rfl
           rotate_left
           ·simp only [Act.put, sQ0, sQ1, sQ2, i64_w]
            rfl
           refine pure_ (i := 11) (N := some 59) (v := ?_) (a' := ?_) #[tt,tt,tt,tt,tt,tt,tt,tt,tt,tt,tt,tt] rfl rfl (any_of HT_.out (by kernel_rfl)) (fun _ _ _ h => h) (Or.inl ⟨by rfl, ?_⟩) ?_ ?_
           rotate_left
           ·intro w'
            go_simp
            with_reducible rfl
           rotate_left
           ·simp only [Act.put, sQ0, sQ1, sQ2, i64_w]
            rfl
           refine done_ (done_of HT_.out (by kernel_rfl)) ?_
           try go_wp2
           go_roundg k2
           case measure => have := HJ1.out; have := HK2.out; omega
           case rel => exact ⟨(wrap64 (x4_2 + 1)), (by first | rfl | (simp; done) | (simp [*]; done)), H', ⟨by have := HJ1.out; have := HK2.out; omega⟩, ⟨by (with_reducible repeat (first | apply Kd.R_alloc | apply Kd.R_drewN | apply Kd.R_drew)); exact HO_3.out⟩, ⟨by (with_reducible repeat (first | refine blk_drewN ?_ _ | refine blk_drew ?_ | refine blk_alloc ?_ _)); exact BK104.out⟩, ⟨by repeat (first | (with_reducible first | exact HB.out | apply below_alloc | apply pw_below_drewN | apply below_drew1 | refine below_set ?_ GE104.out) | exact HB.out)⟩⟩
          ·replace c39 := Bool.eq_false_iff.mpr c39
           subst c39
           have H1 : (some false) = some r := by rw [if_neg (show ¬ (false = true) by decide)] at H; exact H
           clear H
           have H := H1
           clear H1
           obtain rfl := Option.some.inj H
           try go_wp2
           have n0_ := Aside0.mk (Kd.R_drew HO_3.out)
           have n1_ := Aside0.mk (blk_drew BK104.out)
           have n2_ := Aside0.mk (below_drew1 HB.out)
           clear HO_3
           clear BK104
           clear HB
           have HO_3 := n0_
           have BK104 := n1_
           have HB := n2_
           clear n0_ n1_ n2_
           obtain ⟨Ao44, co44, eo44⟩ := Kd.R_slice HO_3.out
           (first | subst eo44 | (injection eo44 with f1_ f2_ f3_; have f4_ := f1_.symm; have f5_ := f3_.symm; clear f1_ f2_ f3_; subst f4_; subst f5_))
           have p109 : 0 ≤ (x4_2 : Int) := of_decide_eq_true (by first | (with_reducible assumption) | assumption)
           have q109 : x4_2 < (y106.length : Int) := of_decide_eq_true (by first | (with_reducible assumption) | assumption)
           obtain ⟨ad109, e109, hx109_0⟩ := Kd.at_int (Kd.R_reads' HO_3.out).2.2 x4_2 p109 q109
           cases e109
           replace p109 := eq_true p109
           replace q109 := eq_true q109
           have p37 : 0 ≤ (x4_2 : Int) := of_decide_eq_true (by first | (with_reducible assumption) | assumption)
           have q37 : x4_2 < (5 : Int) := of_decide_eq_true (by first | (with_reducible assumption) | assumption)
           have hx37 := bt_at (⟨#[119, 99, 116, 100, 101]⟩ : ByteArray) x4_2
           replace p37 := eq_true p37
           replace q37 := eq_true q37
           refine start_ (n := 12) (S := fun w' => w'.cell? ⟨gb104, 0, none⟩ = some (.int .i64 a0_0) ∧ w'.cell? ⟨gb104, 1, none⟩ = some (.int .i64 a0_1) ∧ w'.cell? ⟨gb104, 2, none⟩ = some (.int .i64 a0_2) ∧ w'.cell? ⟨gb104, 3, none⟩ = some (.int .i64 a0_3) ∧ w'.cell? ⟨gb104, 4, none⟩ = some (.int .i64 a0_4) ∧ w'.cell? ⟨gb104, 5, none⟩ = some (.int .i64 a0_5) ∧ w'.cell? ⟨gb104, 6, none⟩ = some (.int .i64 a0_6) ∧ w'.cell? (ad109.add (x4_2).toNat) = some (.int .i64 (rd y106 x4_2))) (ds := []) #[ff,ff,ff,ff,ff,ff,ff,ff,ff,ff,ff,ff] (by kernel_rfl) rfl rfl ⟨(blk_cell BK104.out 0).trans rfl, (blk_cell BK104.out 1).trans rfl, (blk_cell BK104.out 2).trans rfl, (blk_cell BK104.out 3).trans rfl, (blk_cell BK104.out 4).trans rfl, (blk_cell BK104.out 5).trans rfl, (blk_cell BK104.out 6).trans rfl, hx109_0⟩ (fun hHeld => ?_); refine with_tabW knellref24_Right.tab7 knellref24_Right.bits7 (fun HT_ HW_ => ?_)
           generalize wr.drew = w43 at HO_3 BK104 HB hx109_0 hHeld ⊢
           refine pure_ (i := 0) (N := some 48) (v := ?_) (a' := ?_) #[tt,ff,ff,ff,ff,ff,ff,ff,ff,ff,ff,ff] rfl rfl (any_of HT_.out (by kernel_rfl)) (fun _ _ _ h => h) (Or.inl ⟨by rfl, ?_⟩) ?_ ?_
           rotate_left
           ·intro w'
            go_simp
            with_reducible rfl
           rotate_left
           ·simp only [Act.put, sQ0, sQ1, sQ2, i64_w]
            rfl
           refine pure_ (i := 1) (N := some 49) (v := ?_) (a' := ?_) #[tt,tt,ff,ff,ff,ff,ff,ff,ff,ff,ff,ff] rfl rfl (any_of HT_.out (by kernel_rfl)) (fun _ _ _ h => h) (Or.inl ⟨by rfl, ?_⟩) ?_ ?_
           rotate_left
           ·intro w'
            go_simp
            with_reducible rfl
           rotate_left
           ·simp only [Act.put, sQ0, sQ1, sQ2, i64_w]
            rfl
           refine pure_ (i := 2) (N := some 50) (v := ?_) (a' := ?_) #[tt,tt,tt,ff,ff,ff,ff,ff,ff,ff,ff,ff] rfl rfl (any_of HT_.out (by kernel_rfl)) (fun _ _ _ h => h) (Or.inl ⟨by rfl, ?_⟩) ?_ ?_
           rotate_left
           ·intro w'
            go_simp
            with_reducible rfl
           rotate_left
           ·simp only [Act.put, sQ0, sQ1, sQ2, i64_w]
            rfl
           refine take_ (i := 3) (N := some 51) (v := ?_) (a' := ?_) #[tt,tt,tt,tt,ff,ff,ff,ff,ff,ff,ff,ff] rfl rfl (take_ofW HT_.out HW_.out (by kernel_rfl)) (fun _ _ _ h => h) (Or.inl ⟨by rfl, ?_⟩) hHeld ?_ ?_
           rotate_left
           ·rintro w' ⟨s0, s1, s2, s3, s4, s5, s6, s7⟩
            go_simp
            with_reducible rfl
           rotate_left
           ·simp only [Act.put, sQ0, sQ1, sQ2, i64_w]
            rfl
           refine pure_ (i := 4) (N := some 52) (v := ?_) (a' := ?_) #[tt,tt,tt,tt,tt,ff,ff,ff,ff,ff,ff,ff] rfl rfl (any_of HT_.out (by kernel_rfl)) (fun _ _ _ h => h) (Or.inl ⟨by rfl, ?_⟩) ?_ ?_
           rotate_left
           ·intro w'
            go_simp
            with_reducible rfl
           rotate_left
           ·simp only [Act.put, sQ0, sQ1, sQ2, i64_w]
            rfl
           refine pure_ (i := 5) (N := some 53) (v := ?_) (a' := ?_) #[tt,tt,tt,tt,tt,tt,ff,ff,ff,ff,ff,ff] rfl rfl (any_of HT_.out (by kernel_rfl)) (fun _ _ _ h => h) (Or.inl ⟨by rfl, ?_⟩) ?_ ?_
           rotate_left
           ·intro w'
            go_simp
            with_reducible rfl
           rotate_left
           ·simp only [Act.put, sQ0, sQ1, sQ2, i64_w]
            rfl
           refine pure_ (i := 7) (N := some 55) (v := ?_) (a' := ?_) #[tt,tt,tt,tt,tt,tt,ff,tt,ff,ff,ff,ff] rfl rfl (any_of HT_.out (by kernel_rfl)) (fun _ _ _ h => h) (Or.inl ⟨by rfl, ?_⟩) ?_ ?_
           rotate_left
           ·intro w'
            go_simp
            with_reducible rfl
           rotate_left
           ·simp only [Act.put, sQ0, sQ1, sQ2, i64_w]
            rfl
           refine take_ (i := 6) (N := some 54) (v := ?_) (a' := ?_) #[tt,tt,tt,tt,tt,tt,tt,tt,ff,ff,ff,ff] rfl rfl (take_ofW HT_.out HW_.out (by kernel_rfl)) (fun _ _ _ h => h) (Or.inl ⟨by rfl, ?_⟩) hHeld ?_ ?_
           rotate_left
           ·rintro w' ⟨s0, s1, s2, s3, s4, s5, s6, s7⟩
            go_simp
            with_reducible rfl
           rotate_left
           ·simp only [Act.put, sQ0, sQ1, sQ2, i64_w]
            rfl
           refine take_ (i := 8) (N := some 56) (v := ?_) (a' := ?_) #[tt,tt,tt,tt,tt,tt,tt,tt,tt,ff,ff,ff] rfl rfl (take_ofW HT_.out HW_.out (by kernel_rfl)) (fun _ _ _ h => h) (Or.inl ⟨by rfl, ?_⟩) hHeld ?_ ?_
           rotate_left
           ·rintro w' ⟨s0, s1, s2, s3, s4, s5, s6, s7⟩
            go_simp
            with_reducible rfl
           rotate_left
           ·simp only [Act.put, sQ0, sQ1, sQ2, i64_w]
            rfl
           refine one_ (i := 9) (N := some 57) #[tt,tt,tt,tt,tt,tt,tt,tt,tt,tt,ff,ff] rfl rfl (one_of HT_.out (by kernel_rfl)) (by decide) (fun K hK => ?_)
           refine goes_ Tryd.func12 (by kernel_rfl) rfl #[.agg #[.int .i64 a0_0, .int .i64 a0_1, .int .i64 a0_2, .int .i64 a0_3, .int .i64 a0_4, .int .i64 a0_5, .int .i64 a0_6], .int .u8 (bt (⟨#[119, 99, 116, 100, 101]⟩ : ByteArray) x4_2)] (by rfl) rfl rfl (by (try simp only [List.map_toArray, List.map_cons, List.map_nil]); first | done | rfl | (simp only [List.length_drop, List.length_take]; rfl)) ?_
           with_reducible refine (knellref24_Has.calls k2 a0_0 a0_1 a0_2 a0_3 a0_4 a0_5 a0_6 (bt (⟨#[119, 99, 116, 100, 101]⟩ : ByteArray) x4_2) false _ A38.out).mono ?_
           rintro e w45 ⟨rfl, hb⟩
           have HS7_ := (hb.cell (World.block_lt_of_cell? _ _ (hHeld.2.2.2.2.2.2.2))).trans (hHeld.2.2.2.2.2.2.2)
           refine ⟨_, rfl, ?_⟩
           have n0_ := Aside0.mk (Kd.R_below (by (with_reducible repeat (first | apply Kd.R_alloc | apply Kd.R_drewN | apply Kd.R_drew)); exact HO_3.out) hb)
           have n1_ := Aside0.mk (blk_below (g := gb104) (o := .cells #[.int .i64 a0_0, .int .i64 a0_1, .int .i64 a0_2, .int .i64 a0_3, .int .i64 a0_4, .int .i64 a0_5, .int .i64 a0_6] 23 (0, 0)) (by (with_reducible repeat (first | refine blk_drewN ?_ _ | refine blk_drew ?_ | refine blk_alloc ?_ _)); exact BK104.out) hb)
           have n2_ := Aside0.mk (below_step (by repeat (first | (with_reducible first | exact HB.out | apply below_alloc | apply pw_below_drewN | apply below_drew1 | refine below_set ?_ GE104.out) | exact HB.out)) hb)
           clear HO_3
           clear BK104
           clear HB
           have HO_3 := n0_
           have BK104 := n1_
           have HB := n2_
           clear n0_ n1_ n2_
           (try clear hb)
           (try clear hb2)
           (try clear hk)
           (try clear hi)
           refine hK.out _ _ ⟨(blk_cell BK104.out 0).trans rfl, (blk_cell BK104.out 1).trans rfl, (blk_cell BK104.out 2).trans rfl, (blk_cell BK104.out 3).trans rfl, (blk_cell BK104.out 4).trans rfl, (blk_cell BK104.out 5).trans rfl, (blk_cell BK104.out 6).trans rfl, HS7_⟩ (fun hHeld => ?_)
           clear hK K
           refine norm_ (a' := ?_) ?_ ?_
           rotate_left
           ·show Act.put _ (some 57) _ = _
            simp only [Act.put, sQ0, sQ1, sQ2, i64_w]
            rfl
           refine pure_ (i := 10) (N := some 58) (v := ?_) (a' := ?_) #[tt,tt,tt,tt,tt,tt,tt,tt,tt,tt,tt,ff] rfl rfl (any_of HT_.out (by kernel_rfl)) (fun _ _ _ h => h) (Or.inl ⟨by rfl, ?_⟩) ?_ ?_
           rotate_left
           ·intro w'
            go_simp
            with_reducible rfl
           rotate_left
           ·simp only [Act.put, sQ0, sQ1, sQ2, i64_w]
            rfl
           refine pure_ (i := 11) (N := some 59) (v := ?_) (a' := ?_) #[tt,tt,tt,tt,tt,tt,tt,tt,tt,tt,tt,tt] rfl rfl (any_of HT_.out (by kernel_rfl)) (fun _ _ _ h => h) (Or.inl ⟨by rfl, ?_⟩) ?_ ?_
           rotate_left
           ·intro w'
            go_simp
            with_reducible rfl
           rotate_left
           ·simp only [Act.put, sQ0, sQ1, sQ2, i64_w]
            rfl
           refine done_ (done_of HT_.out (by kernel_rfl)) ?_
           try go_wp2
           go_ret
           exact ⟨by first | rfl | (simp [errW_none, errW_some] <;> rfl) | (simp [*, errW_none, errW_some] <;> rfl), by repeat (first | (with_reducible first | exact HB.out | apply below_alloc | apply pw_below_drewN | apply below_drew1 | refine below_set ?_ GE104.out) | exact HB.out)⟩
        ·rw [if_neg c33] at H
         exact absurd H (by simp)
       ·rw [if_neg c32] at H
        exact absurd H (by simp)
      ·rw [if_neg c31] at H
       have c31b0 : decide (x4_2 < 5) = false := decide_eq_false c31
       clear c31
       obtain rfl := Option.some.inj H
       go_wp2
       go_ret
       exact ⟨by first | rfl | (simp [errW_none, errW_some] <;> rfl) | (simp [*, errW_none, errW_some] <;> rfl), by repeat (first | (with_reducible first | exact HB.out | apply below_alloc | apply pw_below_drewN | apply below_drew1 | refine below_set ?_ GE104.out) | exact HB.out)⟩
end Go.Proofs.YthljanmfanppdaaDoor.KLw
end
section
namespace Go.Proofs.YthljanmfanppdaaDoor.Bk
open Go.RowKit Go.Proofs.YthljanmfanppdaaDoorW.PrintWords Go.Proofs.YthljanmfanppdaaDoorW.PrintLast Go.Proofs.YthljanmfanppdaaDoorW.PrintMore Go.Proofs.YthljanmfanppdaaDoor.KLw
set_option linter.unusedVariables false
set_option linter.unusedSimpArgs false
theorem kind_is (n : Nat) (k wk op cn t dr er : Int) : knellref24_kind.f (n + 1) k wk op cn t dr er = some (lkOk k op) := by
 unfold knellref24_kind.f lkOk ownB
 simp only [knellref24_kind.j0]
 by_cases k1 : k = 1
 ·subst k1; simp
 by_cases k2 : k = 2
 ·subst k2
  by_cases h : op ≥ 1
  ·have e : decide (op ≤ 6) = (decide (op ≤ 5) || op == 6) := by rw [Bool.eq_iff_iff]; simp; omega
   simp [h, e]
  ·simp [h]; omega
 by_cases k3 : k = 3
 ·subst k3
  by_cases h : op ≥ 1
  ·simp [h]
  ·simp [h]
 by_cases k4 : k = 4
 ·subst k4
  by_cases h : op = 7
  ·simp [h]
  ·simp [h]
 by_cases k5 : k = 5
 ·subst k5
  by_cases h : op ≥ 1
  ·have e : decide (op ≤ 6) = (decide (op ≤ 5) || op == 6) := by rw [Bool.eq_iff_iff]; simp; omega
   simp [h, e]
  ·simp [h]; omega
 simp [k1, k2, k3, k4, k5]
theorem has_j (n : Nat) (k wk op cn t dr er f : Int) : knellref24_Has.f (n + 1) k wk op cn t dr er f = knellref24_Has.j0 (n + 1) f (ownB op) k wk op cn t dr er := by
 unfold knellref24_Has.f ownB
 by_cases h : op ≥ 1
 ·rw [if_pos h, decide_eq_true (show 1 ≤ op from h)]; rfl
 ·rw [if_neg h, decide_eq_false (show ¬ 1 ≤ op from h)]; rfl
theorem has_w (n : Nat) (k wk op cn t dr er : Int) (hk : lkOk k op = true) : knellref24_Has.f (n + 1) k wk op cn t dr er 119 = some (lkW k) := by
 rw [has_j]
 simp only [knellref24_Has.j0]
 rw [if_pos trivial]
 unfold lkOk at hk
 unfold lkW
 by_cases k1 : k = 1
 ·subst k1; rfl
 ·by_cases k2 : k = 2 <;> by_cases k3 : k = 3 <;> by_cases k4 : k = 4 <;> by_cases k5 : k = 5 <;> simp_all
theorem has_c (n : Nat) (k wk op cn t dr er : Int) : knellref24_Has.f (n + 1) k wk op cn t dr er 99 = some (lkC k op) := by
 rw [has_j]
 simp only [knellref24_Has.j0]
 rw [if_neg (by decide), if_pos trivial]
 unfold lkC
 generalize ownB op = o
 by_cases k2 : k = 2
 ·subst k2; cases o <;> simp
 ·by_cases k3 : k = 3
  ·subst k3; simp
  ·simp [k2, k3]
theorem has_t (n : Nat) (k wk op cn t dr er : Int) : knellref24_Has.f (n + 1) k wk op cn t dr er 116 = some (lkT k er) := by
 rw [has_j]
 simp only [knellref24_Has.j0]
 rw [if_neg (by decide), if_neg (by decide), if_pos trivial]
 unfold lkT knellref24_still.f
 by_cases k1 : k = 1
 ·subst k1; simp
 by_cases k4 : k = 4
 ·subst k4; simp
 by_cases k3 : k = 3
 ·subst k3
  by_cases e1 : er = 1
  ·subst e1; simp
  by_cases e3 : er = 3
  ·subst e3; simp
  simp [e1, e3]
 simp [k1, k3, k4]
theorem has_d (n : Nat) (k wk op cn t dr er : Int) : knellref24_Has.f (n + 1) k wk op cn t dr er 100 = some (lkD k op) := by
 rw [has_j]
 simp only [knellref24_Has.j0]
 rw [if_neg (by decide), if_neg (by decide), if_neg (by decide), if_pos trivial]
 unfold lkD
 by_cases k2 : k = 2
 ·subst k2; simp
 ·simp [k2]
theorem has_e (n : Nat) (k wk op cn t dr er : Int) : knellref24_Has.f (n + 1) k wk op cn t dr er 101 = some (lkE k op) := by
 rw [has_j]
 simp only [knellref24_Has.j0]
 rw [if_neg (by decide), if_neg (by decide), if_neg (by decide), if_neg (by decide)]
 unfold lkE
 by_cases k3 : k = 3
 ·subst k3; simp
 by_cases k5 : k = 5
 ·subst k5; simp
 simp [k3, k5]
theorem rright_l (n : Nat) (k wk op cn t dr er : Int) (hk : lkOk k op = true) : knellref24_Right.l0 (n + 8) [wk, cn, t, dr, er] 0 k wk op cn t dr er = some ((lkW k || wk == 0) && ((lkC k op || cn == 0) && ((lkT k er || t == 0) && ((lkD k op || dr == 0) && (lkE k op || er == 0))))) := by
 have w1 : wrap64 (0 + 1) = 1 := by unfold wrap64; omega
 have w2 : wrap64 (1 + 1) = 2 := by unfold wrap64; omega
 have w3 : wrap64 (2 + 1) = 3 := by unfold wrap64; omega
 have w4 : wrap64 (3 + 1) = 4 := by unfold wrap64; omega
 have w5 : wrap64 (4 + 1) = 5 := by unfold wrap64; omega
 have b0 : bt (⟨#[119, 99, 116, 100, 101]⟩ : ByteArray) 0 = 119 := by decide
 have b1 : bt (⟨#[119, 99, 116, 100, 101]⟩ : ByteArray) 1 = 99 := by decide
 have b2 : bt (⟨#[119, 99, 116, 100, 101]⟩ : ByteArray) 2 = 116 := by decide
 have b3 : bt (⟨#[119, 99, 116, 100, 101]⟩ : ByteArray) 3 = 100 := by decide
 have b4 : bt (⟨#[119, 99, 116, 100, 101]⟩ : ByteArray) 4 = 101 := by decide
 have r0 : rd [wk, cn, t, dr, er] 0 = wk := rfl
 have r1 : rd [wk, cn, t, dr, er] 1 = cn := rfl
 have r2 : rd [wk, cn, t, dr, er] 2 = t := rfl
 have r3 : rd [wk, cn, t, dr, er] 3 = dr := rfl
 have r4 : rd [wk, cn, t, dr, er] 4 = er := rfl
 have hl : (([wk, cn, t, dr, er] : List Int).length : Int) = 5 := rfl
 have s5 : knellref24_Right.l0 (n + 3) [wk, cn, t, dr, er] 5 k wk op cn t dr er = some true := by simp [knellref24_Right.l0]
 have s4 : knellref24_Right.l0 (n + 4) [wk, cn, t, dr, er] 4 k wk op cn t dr er = some (lkE k op || er == 0) := by
  rw [knellref24_Right.l0, hl, r4, b4, w5, has_e, s5]
  by_cases h : er = 0 <;> cases lkE k op <;> simp [h]
 have s3 : knellref24_Right.l0 (n + 5) [wk, cn, t, dr, er] 3 k wk op cn t dr er = some ((lkD k op || dr == 0) && (lkE k op || er == 0)) := by
  rw [knellref24_Right.l0, hl, r3, b3, w4, has_d, s4]
  by_cases h : dr = 0 <;> cases lkD k op <;> simp [h]
 have s2 : knellref24_Right.l0 (n + 6) [wk, cn, t, dr, er] 2 k wk op cn t dr er = some ((lkT k er || t == 0) && ((lkD k op || dr == 0) && (lkE k op || er == 0))) := by
  rw [knellref24_Right.l0, hl, r2, b2, w3, has_t, s3]
  by_cases h : t = 0 <;> cases lkT k er <;> simp [h]
 have s1 : knellref24_Right.l0 (n + 7) [wk, cn, t, dr, er] 1 k wk op cn t dr er = some ((lkC k op || cn == 0) && ((lkT k er || t == 0) && ((lkD k op || dr == 0) && (lkE k op || er == 0)))) := by
  rw [knellref24_Right.l0, hl, r1, b1, w2, has_c, s2]
  by_cases h : cn = 0 <;> cases lkC k op <;> simp [h]
 rw [knellref24_Right.l0, hl, r0, b0, w1, has_w _ _ _ _ _ _ _ _ hk, s1]
 by_cases h : wk = 0 <;> cases lkW k <;> simp [h]
theorem rright_is (n : Nat) (k wk op cn t dr er : Int) : knellref24_Right.f (n + 9) k wk op cn t dr er = some (lrB k wk op cn t dr er) := by
 unfold knellref24_Right.f lrB
 rw [kind_is]
 simp only [Option.bind_some, knellref24_Right.j0]
 cases hk : lkOk k op with
 | false => simp
 | true =>
  rw [rright_l n k wk op cn t dr er hk]
  generalize ((lkW k || wk == 0) && ((lkC k op || cn == 0) && ((lkT k er || t == 0) && ((lkD k op || dr == 0) && (lkE k op || er == 0))))) = z
  by_cases h1 : wk < 0
  ·simp [h1]
  by_cases h2 : t < 0
  ·simp [h1, h2]
  by_cases h3 : er < 0
  ·simp [h1, h2, h3]
  by_cases h4 : k = 4
  ·by_cases h5 : cn < 0 <;> simp [h1, h2, h3, h4, h5]
  ·simp [h1, h2, h3, h4]
end Go.Proofs.YthljanmfanppdaaDoor.Bk
end
section
namespace Go.Proofs.YthljanmfanppdaaDoor.KLw
open Go.RowKit Go.Proofs.YthljanmfanppdaaDoorW.PrintWords Go.Proofs.YthljanmfanppdaaDoorW.PrintLast Go.Proofs.YthljanmfanppdaaDoorW.PrintMore
attribute [local go_sem] max2_int min2_int max_two min_two max_three min_three max_four min_four   -- for this text's walks alone
set_option linter.unusedVariables false
set_option linter.unusedSimpArgs false
theorem eqA23 (d : Nat) (w : World) (x0 y0 : Int) (x1 y1 : Int) (x2 y2 : Int) (x3 y3 : Int) (x4 y4 : Int) (x5 y5 : Int) (x6 y6 : Int) :
  (Op.equalIn (d + 2) 23 (.agg #[.int .i64 x0, .int .i64 x1, .int .i64 x2, .int .i64 x3, .int .i64 x4, .int .i64 x5, .int .i64 x6]) (.agg #[.int .i64 y0, .int .i64 y1, .int .i64 y2, .int .i64 y3, .int .i64 y4, .int .i64 y5, .int .i64 y6])).run Tryd.prog w = .ok (x0 == y0 && (x1 == y1 && (x2 == y2 && (x3 == y3 && (x4 == y4 && (x5 == y5 && (x6 == y6))))))) w := by
 refine eqA_of Tryd.underlying23 (by kernel_rfl) ?_
 refine eqf_cons (by rfl) (by go_simp; rfl) (by go_simp; rfl) (by go_simp) ?_
 refine eqf_cons (by rfl) (by go_simp; rfl) (by go_simp; rfl) (by go_simp) ?_
 refine eqf_cons (by rfl) (by go_simp; rfl) (by go_simp; rfl) (by go_simp) ?_
 refine eqf_cons (by rfl) (by go_simp; rfl) (by go_simp; rfl) (by go_simp) ?_
 refine eqf_cons (by rfl) (by go_simp; rfl) (by go_simp; rfl) (by go_simp) ?_
 refine eqf_cons (by rfl) (by go_simp; rfl) (by go_simp; rfl) (by go_simp) ?_
 exact eqf_last (by rfl) (by go_simp; rfl) (by go_simp; rfl) (by go_simp)
end Go.Proofs.YthljanmfanppdaaDoor.KLw
end
section
namespace Go.Proofs.YthljanmfanppdaaDoor.KLw
open Go.RowKit Go.Proofs.YthljanmfanppdaaDoorW.PrintWords Go.Proofs.YthljanmfanppdaaDoorW.PrintLast Go.Proofs.YthljanmfanppdaaDoorW.PrintMore
attribute [local go_sem] max2_int min2_int max_two min_two max_three min_three max_four min_four   -- for this text's walks alone
set_option linter.unusedVariables false
set_option linter.unusedSimpArgs false
def strconv_Itoa_14.f (a0 : Int) : Option ByteArray := if -9223372036854775808 ≤ a0 ∧ a0 ≤ 9223372036854775807 then some (Go.Proofs.YthljanmfanppdaaDoor.Lw.numS a0) else none
theorem strconv_Itoa_14.calls (a0 : Int) (r1 : ByteArray) (w : World) (htab_ : Go.Proofs.YthljanmfanppdaaDoor.Lw.Tab w) (h : strconv_Itoa_14.f a0 = some r1) :
  Calls Tryd.prog 14 #[.int .i64 a0] w fun e w' => e = .returned (.string r1) ∧ Below w.heap.size w w' := by
 unfold strconv_Itoa_14.f at h
 split at h
 ·rename_i hs
  cases h
  exact Go.Proofs.YthljanmfanppdaaDoor.Lw.itoa_any a0 hs.1 hs.2 w htab_
 ·cases h
mutual
def link_Line.j0 : Nat → ByteArray → Int → Int → Int → Int → Int → Int → Int → Option (ByteArray)
 | 0, _, _, _, _, _, _, _, _ => none
 | k + 1, x5, x112000, x112001, x112002, x112003, x112004, x112005, x112006 => (link_shapeOf.f x112000 x112001 x112002 x112003 x112004 x112005 x112006).bind fun bt122 => ((some (([bt122.2.1, bt122.2.2.1, bt122.2.2.2.1, bt122.2.2.2.2.1] : List Bool) : List Bool)).bind fun y129 => (link_Line.l0 k x5 y129 (y129.length : Int) 0 x112000 x112001 x112002 x112003 x112004 x112005 x112006))
def link_Line.l0 : Nat → ByteArray → List Bool → Int → Int → Int → Int → Int → Int → Int → Int → Int → Option (ByteArray)
 | 0, _, _, _, _, _, _, _, _, _, _, _ => none
 | k + 1, x5, x49, x50, x51, x112000, x112001, x112002, x112003, x112004, x112005, x112006 => if x51 < x50 then (if 0 ≤ x51 then (if x51 < (x49.length : Int) then (if rdOf false x49 x51 = true then ((some (([x112003, x112004, x112005, x112006] : List Int) : List Int)).bind fun y133 => (if x51 < (y133.length : Int) then ((strconv_Itoa_14.f (rd y133 x51)).bind fun t137 => (if 1 + t137.size ≤ 9223372036854775807 then (if x5.size + ((⟨#[32]⟩ : ByteArray) ++ t137).size ≤ 9223372036854775807 then (link_Line.l0 k (x5 ++ ((⟨#[32]⟩ : ByteArray) ++ t137)) x49 x50 (wrap64 (x51 + 1)) x112000 x112001 x112002 x112003 x112004 x112005 x112006) else (none)) else (none))) else (none))) else (link_Line.l0 k x5 x49 x50 (wrap64 (x51 + 1)) x112000 x112001 x112002 x112003 x112004 x112005 x112006)) else (none)) else (none)) else (some x5)
end
def link_Line.f (k : Nat) (a0_0 : Int) (a0_1 : Int) (a0_2 : Int) (a0_3 : Int) (a0_4 : Int) (a0_5 : Int) (a0_6 : Int) : Option (ByteArray) := (link_Right.f a0_0 a0_1 a0_2 a0_3 a0_4 a0_5 a0_6).bind fun t112 => (if t112 = true then ((some (([(⟨#[]⟩ : ByteArray), (⟨#[116, 105, 99, 107]⟩ : ByteArray), (⟨#[105, 110, 118, 111, 107, 101]⟩ : ByteArray), (⟨#[112, 111, 105, 110, 116]⟩ : ByteArray), (⟨#[97, 99, 116]⟩ : ByteArray), (⟨#[114, 101, 116, 117, 114, 110]⟩ : ByteArray)] : List ByteArray) : List ByteArray)).bind fun y113 => ((some (([(⟨#[]⟩ : ByteArray), (⟨#[111, 112, 101, 110]⟩ : ByteArray), (⟨#[116, 111, 117, 99, 104]⟩ : ByteArray), (⟨#[99, 108, 111, 115, 101]⟩ : ByteArray), (⟨#[102, 97, 105, 108]⟩ : ByteArray), (⟨#[115, 117, 99, 99, 101, 115, 115]⟩ : ByteArray), (⟨#[97, 100, 118, 97, 110, 99, 101]⟩ : ByteArray), (⟨#[105, 100, 108, 101]⟩ : ByteArray), (⟨#[114, 101, 116, 114, 121]⟩ : ByteArray)] : List ByteArray) : List ByteArray)).bind fun y116 => (if 0 ≤ a0_0 then (if a0_0 < (y113.length : Int) then (if a0_0 = 1 then (link_Line.j0 k (rdOf ByteArray.empty y113 a0_0) a0_0 a0_1 a0_2 a0_3 a0_4 a0_5 a0_6) else ((strconv_Itoa_14.f a0_1).bind fun t120 => (if 1 + t120.size ≤ 9223372036854775807 then (if ((⟨#[32]⟩ : ByteArray) ++ t120).size + 1 ≤ 9223372036854775807 then (if 0 ≤ a0_2 then (if a0_2 < (y116.length : Int) then (if (((⟨#[32]⟩ : ByteArray) ++ t120) ++ (⟨#[32]⟩ : ByteArray)).size + (rdOf ByteArray.empty y116 a0_2).size ≤ 9223372036854775807 then (if (rdOf ByteArray.empty y113 a0_0).size + ((((⟨#[32]⟩ : ByteArray) ++ t120) ++ (⟨#[32]⟩ : ByteArray)) ++ (rdOf ByteArray.empty y116 a0_2)).size ≤ 9223372036854775807 then (link_Line.j0 k ((rdOf ByteArray.empty y113 a0_0) ++ ((((⟨#[32]⟩ : ByteArray) ++ t120) ++ (⟨#[32]⟩ : ByteArray)) ++ (rdOf ByteArray.empty y116 a0_2))) a0_0 a0_1 a0_2 a0_3 a0_4 a0_5 a0_6) else (none)) else (none)) else (none)) else (none)) else (none)) else (none)))) else (none)) else (none)))) else (some (⟨#[]⟩ : ByteArray)))
def link_Line.T7 : Bool × List (List Nat × List Nat) := (true, [([], []), ([], []), ([1], [1]), ([2], [2]), ([3], [3]), ([4], [4]), ([], []), ([], []), ([7], [7]), ([6, 8], [6, 8]), ([9], [9]), ([5, 10], [5, 10]), ([0, 11], [0, 11]), ([12, 3, 0, 1, 2, 3, 4, 5, 6, 7, 8, 9, 10, 11, 12], [0, 12])])
def link_Line.B7 : List Nat := [0, 0, 2, 6, 14, 30, 0, 0, 128, 448, 960, 2046, 4095, 8191]
theorem link_Line.tab7 : rtab .any (opsOf Tryd.f6 7) = link_Line.T7 := by kernel_rfl
theorem link_Line.bits7 : waitsOk link_Line.T7.2 link_Line.B7 = true := by kernel_rfl
set_option maxHeartbeats 8000000 in
set_option maxRecDepth 100000 in
theorem link_Line.calls (k : Nat) (a0_0 : Int) (a0_1 : Int) (a0_2 : Int) (a0_3 : Int) (a0_4 : Int) (a0_5 : Int) (a0_6 : Int) (r : ByteArray) (w : World) (htab_ : Go.Proofs.YthljanmfanppdaaDoor.Lw.Tab w) (h : link_Line.f k a0_0 a0_1 a0_2 a0_3 a0_4 a0_5 a0_6 = some r) :
  Calls Tryd.prog 6 #[.agg #[.int .i64 a0_0, .int .i64 a0_1, .int .i64 a0_2, .int .i64 a0_3, .int .i64 a0_4, .int .i64 a0_5, .int .i64 a0_6]] w fun e w' => e = .returned (.string r) ∧ Below w.heap.size w w' := by
 have HTAB_ := Aside0.mk htab_
 clear htab_
 have hu29 := Tryd.underlying29
 have hu48 := Tryd.underlying48
 have HB := Aside0.mk (Below.refl w.heap.size w)
 have H : ((link_Right.f a0_0 a0_1 a0_2 a0_3 a0_4 a0_5 a0_6).bind fun t112 => (if t112 = true then ((some (([(⟨#[]⟩ : ByteArray), (⟨#[116, 105, 99, 107]⟩ : ByteArray), (⟨#[105, 110, 118, 111, 107, 101]⟩ : ByteArray), (⟨#[112, 111, 105, 110, 116]⟩ : ByteArray), (⟨#[97, 99, 116]⟩ : ByteArray), (⟨#[114, 101, 116, 117, 114, 110]⟩ : ByteArray)] : List ByteArray) : List ByteArray)).bind fun y113 => ((some (([(⟨#[]⟩ : ByteArray), (⟨#[111, 112, 101, 110]⟩ : ByteArray), (⟨#[116, 111, 117, 99, 104]⟩ : ByteArray), (⟨#[99, 108, 111, 115, 101]⟩ : ByteArray), (⟨#[102, 97, 105, 108]⟩ : ByteArray), (⟨#[115, 117, 99, 99, 101, 115, 115]⟩ : ByteArray), (⟨#[97, 100, 118, 97, 110, 99, 101]⟩ : ByteArray), (⟨#[105, 100, 108, 101]⟩ : ByteArray), (⟨#[114, 101, 116, 114, 121]⟩ : ByteArray)] : List ByteArray) : List ByteArray)).bind fun y116 => (if 0 ≤ a0_0 then (if a0_0 < (y113.length : Int) then (if a0_0 = 1 then (link_Line.j0 k (rdOf ByteArray.empty y113 a0_0) a0_0 a0_1 a0_2 a0_3 a0_4 a0_5 a0_6) else ((strconv_Itoa_14.f a0_1).bind fun t120 => (if 1 + t120.size ≤ 9223372036854775807 then (if ((⟨#[32]⟩ : ByteArray) ++ t120).size + 1 ≤ 9223372036854775807 then (if 0 ≤ a0_2 then (if a0_2 < (y116.length : Int) then (if (((⟨#[32]⟩ : ByteArray) ++ t120) ++ (⟨#[32]⟩ : ByteArray)).size + (rdOf ByteArray.empty y116 a0_2).size ≤ 9223372036854775807 then (if (rdOf ByteArray.empty y113 a0_0).size + ((((⟨#[32]⟩ : ByteArray) ++ t120) ++ (⟨#[32]⟩ : ByteArray)) ++ (rdOf ByteArray.empty y116 a0_2)).size ≤ 9223372036854775807 then (link_Line.j0 k ((rdOf ByteArray.empty y113 a0_0) ++ ((((⟨#[32]⟩ : ByteArray) ++ t120) ++ (⟨#[32]⟩ : ByteArray)) ++ (rdOf ByteArray.empty y116 a0_2))) a0_0 a0_1 a0_2 a0_3 a0_4 a0_5 a0_6) else (none)) else (none)) else (none)) else (none)) else (none)) else (none)))) else (none)) else (none)))) else (some (⟨#[]⟩ : ByteArray)))) = some r := h
 clear h
 replace H := Option.bind_eq_some_iff.mp H
 obtain ⟨t112, A20, H⟩ := H
 replace H : (if t112 = true then ((some (([(⟨#[]⟩ : ByteArray), (⟨#[116, 105, 99, 107]⟩ : ByteArray), (⟨#[105, 110, 118, 111, 107, 101]⟩ : ByteArray), (⟨#[112, 111, 105, 110, 116]⟩ : ByteArray), (⟨#[97, 99, 116]⟩ : ByteArray), (⟨#[114, 101, 116, 117, 114, 110]⟩ : ByteArray)] : List ByteArray) : List ByteArray)).bind fun y113 => ((some (([(⟨#[]⟩ : ByteArray), (⟨#[111, 112, 101, 110]⟩ : ByteArray), (⟨#[116, 111, 117, 99, 104]⟩ : ByteArray), (⟨#[99, 108, 111, 115, 101]⟩ : ByteArray), (⟨#[102, 97, 105, 108]⟩ : ByteArray), (⟨#[115, 117, 99, 99, 101, 115, 115]⟩ : ByteArray), (⟨#[97, 100, 118, 97, 110, 99, 101]⟩ : ByteArray), (⟨#[105, 100, 108, 101]⟩ : ByteArray), (⟨#[114, 101, 116, 114, 121]⟩ : ByteArray)] : List ByteArray) : List ByteArray)).bind fun y116 => (if 0 ≤ a0_0 then (if a0_0 < (y113.length : Int) then (if a0_0 = 1 then (link_Line.j0 k (rdOf ByteArray.empty y113 a0_0) a0_0 a0_1 a0_2 a0_3 a0_4 a0_5 a0_6) else ((strconv_Itoa_14.f a0_1).bind fun t120 => (if 1 + t120.size ≤ 9223372036854775807 then (if ((⟨#[32]⟩ : ByteArray) ++ t120).size + 1 ≤ 9223372036854775807 then (if 0 ≤ a0_2 then (if a0_2 < (y116.length : Int) then (if (((⟨#[32]⟩ : ByteArray) ++ t120) ++ (⟨#[32]⟩ : ByteArray)).size + (rdOf ByteArray.empty y116 a0_2).size ≤ 9223372036854775807 then (if (rdOf ByteArray.empty y113 a0_0).size + ((((⟨#[32]⟩ : ByteArray) ++ t120) ++ (⟨#[32]⟩ : ByteArray)) ++ (rdOf ByteArray.empty y116 a0_2)).size ≤ 9223372036854775807 then (link_Line.j0 k ((rdOf ByteArray.empty y113 a0_0) ++ ((((⟨#[32]⟩ : ByteArray) ++ t120) ++ (⟨#[32]⟩ : ByteArray)) ++ (rdOf ByteArray.empty y116 a0_2))) a0_0 a0_1 a0_2 a0_3 a0_4 a0_5 a0_6) else (none)) else (none)) else (none)) else (none)) else (none)) else (none)))) else (none)) else (none)))) else (some (⟨#[]⟩ : ByteArray))) = some r := H
 have A2 := Aside0.mk A20
 clear A20
 by_cases c3 : t112 = true
 ·subst c3
  have H1 : ((some (([(⟨#[]⟩ : ByteArray), (⟨#[116, 105, 99, 107]⟩ : ByteArray), (⟨#[105, 110, 118, 111, 107, 101]⟩ : ByteArray), (⟨#[112, 111, 105, 110, 116]⟩ : ByteArray), (⟨#[97, 99, 116]⟩ : ByteArray), (⟨#[114, 101, 116, 117, 114, 110]⟩ : ByteArray)] : List ByteArray) : List ByteArray)).bind fun y113 => ((some (([(⟨#[]⟩ : ByteArray), (⟨#[111, 112, 101, 110]⟩ : ByteArray), (⟨#[116, 111, 117, 99, 104]⟩ : ByteArray), (⟨#[99, 108, 111, 115, 101]⟩ : ByteArray), (⟨#[102, 97, 105, 108]⟩ : ByteArray), (⟨#[115, 117, 99, 99, 101, 115, 115]⟩ : ByteArray), (⟨#[97, 100, 118, 97, 110, 99, 101]⟩ : ByteArray), (⟨#[105, 100, 108, 101]⟩ : ByteArray), (⟨#[114, 101, 116, 114, 121]⟩ : ByteArray)] : List ByteArray) : List ByteArray)).bind fun y116 => (if 0 ≤ a0_0 then (if a0_0 < (y113.length : Int) then (if a0_0 = 1 then (link_Line.j0 k (rdOf ByteArray.empty y113 a0_0) a0_0 a0_1 a0_2 a0_3 a0_4 a0_5 a0_6) else ((strconv_Itoa_14.f a0_1).bind fun t120 => (if 1 + t120.size ≤ 9223372036854775807 then (if ((⟨#[32]⟩ : ByteArray) ++ t120).size + 1 ≤ 9223372036854775807 then (if 0 ≤ a0_2 then (if a0_2 < (y116.length : Int) then (if (((⟨#[32]⟩ : ByteArray) ++ t120) ++ (⟨#[32]⟩ : ByteArray)).size + (rdOf ByteArray.empty y116 a0_2).size ≤ 9223372036854775807 then (if (rdOf ByteArray.empty y113 a0_0).size + ((((⟨#[32]⟩ : ByteArray) ++ t120) ++ (⟨#[32]⟩ : ByteArray)) ++ (rdOf ByteArray.empty y116 a0_2)).size ≤ 9223372036854775807 then (link_Line.j0 k ((rdOf ByteArray.empty y113 a0_0) ++ ((((⟨#[32]⟩ : ByteArray) ++ t120) ++ (⟨#[32]⟩ : ByteArray)) ++ (rdOf ByteArray.empty y116 a0_2))) a0_0 a0_1 a0_2 a0_3 a0_4 a0_5 a0_6) else (none)) else (none)) else (none)) else (none)) else (none)) else (none)))) else (none)) else (none)))) = some r := by rw [if_pos rfl] at H; exact H
  clear H
  have H := H1
  clear H1
  obtain ⟨y113, hy113⟩ : ∃ y_ : List ByteArray, y_ = (([(⟨#[]⟩ : ByteArray), (⟨#[116, 105, 99, 107]⟩ : ByteArray), (⟨#[105, 110, 118, 111, 107, 101]⟩ : ByteArray), (⟨#[112, 111, 105, 110, 116]⟩ : ByteArray), (⟨#[97, 99, 116]⟩ : ByteArray), (⟨#[114, 101, 116, 117, 114, 110]⟩ : ByteArray)] : List ByteArray)) := ⟨_, rfl⟩
  replace H : ((some (([(⟨#[]⟩ : ByteArray), (⟨#[111, 112, 101, 110]⟩ : ByteArray), (⟨#[116, 111, 117, 99, 104]⟩ : ByteArray), (⟨#[99, 108, 111, 115, 101]⟩ : ByteArray), (⟨#[102, 97, 105, 108]⟩ : ByteArray), (⟨#[115, 117, 99, 99, 101, 115, 115]⟩ : ByteArray), (⟨#[97, 100, 118, 97, 110, 99, 101]⟩ : ByteArray), (⟨#[105, 100, 108, 101]⟩ : ByteArray), (⟨#[114, 101, 116, 114, 121]⟩ : ByteArray)] : List ByteArray) : List ByteArray)).bind fun y116 => (if 0 ≤ a0_0 then (if a0_0 < (y113.length : Int) then (if a0_0 = 1 then (link_Line.j0 k (rdOf ByteArray.empty y113 a0_0) a0_0 a0_1 a0_2 a0_3 a0_4 a0_5 a0_6) else ((strconv_Itoa_14.f a0_1).bind fun t120 => (if 1 + t120.size ≤ 9223372036854775807 then (if ((⟨#[32]⟩ : ByteArray) ++ t120).size + 1 ≤ 9223372036854775807 then (if 0 ≤ a0_2 then (if a0_2 < (y116.length : Int) then (if (((⟨#[32]⟩ : ByteArray) ++ t120) ++ (⟨#[32]⟩ : ByteArray)).size + (rdOf ByteArray.empty y116 a0_2).size ≤ 9223372036854775807 then (if (rdOf ByteArray.empty y113 a0_0).size + ((((⟨#[32]⟩ : ByteArray) ++ t120) ++ (⟨#[32]⟩ : ByteArray)) ++ (rdOf ByteArray.empty y116 a0_2)).size ≤ 9223372036854775807 then (link_Line.j0 k ((rdOf ByteArray.empty y113 a0_0) ++ ((((⟨#[32]⟩ : ByteArray) ++ t120) ++ (⟨#[32]⟩ : ByteArray)) ++ (rdOf ByteArray.empty y116 a0_2))) a0_0 a0_1 a0_2 a0_3 a0_4 a0_5 a0_6) else (none)) else (none)) else (none)) else (none)) else (none)) else (none)))) else (none)) else (none))) = some r := by first | (rw [hy113]; with_reducible exact H) | (have H2_ := (Option.bind_some _ _).symm.trans H; rw [hy113]; with_reducible exact H2_) | (have H2_ := (Option.bind_some _ _).symm.trans H; with_reducible exact H2_) | with_reducible exact H | (rw [hy113]; exact H) | exact H
  have Ny113 := Aside0.mk hy113
  clear hy113
  obtain ⟨y116, hy116⟩ : ∃ y_ : List ByteArray, y_ = (([(⟨#[]⟩ : ByteArray), (⟨#[111, 112, 101, 110]⟩ : ByteArray), (⟨#[116, 111, 117, 99, 104]⟩ : ByteArray), (⟨#[99, 108, 111, 115, 101]⟩ : ByteArray), (⟨#[102, 97, 105, 108]⟩ : ByteArray), (⟨#[115, 117, 99, 99, 101, 115, 115]⟩ : ByteArray), (⟨#[97, 100, 118, 97, 110, 99, 101]⟩ : ByteArray), (⟨#[105, 100, 108, 101]⟩ : ByteArray), (⟨#[114, 101, 116, 114, 121]⟩ : ByteArray)] : List ByteArray)) := ⟨_, rfl⟩
  replace H : (if 0 ≤ a0_0 then (if a0_0 < (y113.length : Int) then (if a0_0 = 1 then (link_Line.j0 k (rdOf ByteArray.empty y113 a0_0) a0_0 a0_1 a0_2 a0_3 a0_4 a0_5 a0_6) else ((strconv_Itoa_14.f a0_1).bind fun t120 => (if 1 + t120.size ≤ 9223372036854775807 then (if ((⟨#[32]⟩ : ByteArray) ++ t120).size + 1 ≤ 9223372036854775807 then (if 0 ≤ a0_2 then (if a0_2 < (y116.length : Int) then (if (((⟨#[32]⟩ : ByteArray) ++ t120) ++ (⟨#[32]⟩ : ByteArray)).size + (rdOf ByteArray.empty y116 a0_2).size ≤ 9223372036854775807 then (if (rdOf ByteArray.empty y113 a0_0).size + ((((⟨#[32]⟩ : ByteArray) ++ t120) ++ (⟨#[32]⟩ : ByteArray)) ++ (rdOf ByteArray.empty y116 a0_2)).size ≤ 9223372036854775807 then (link_Line.j0 k ((rdOf ByteArray.empty y113 a0_0) ++ ((((⟨#[32]⟩ : ByteArray) ++ t120) ++ (⟨#[32]⟩ : ByteArray)) ++ (rdOf ByteArray.empty y116 a0_2))) a0_0 a0_1 a0_2 a0_3 a0_4 a0_5 a0_6) else (none)) else (none)) else (none)) else (none)) else (none)) else (none)))) else (none)) else (none)) = some r := by first | (rw [hy116]; with_reducible exact H) | (have H2_ := (Option.bind_some _ _).symm.trans H; rw [hy116]; with_reducible exact H2_) | (have H2_ := (Option.bind_some _ _).symm.trans H; with_reducible exact H2_) | with_reducible exact H | (rw [hy116]; exact H) | exact H
  have Ny116 := Aside0.mk hy116
  clear hy116
  by_cases c4 : 0 ≤ a0_0
  ·rw [if_pos c4] at H
   have c4b0 : decide (0 ≤ a0_0) = true := decide_eq_true c4
   clear c4
   by_cases c5 : a0_0 < (y113.length : Int)
   ·rw [if_pos c5] at H
    have c5b0 : decide (a0_0 < (y113.length : Int)) = true := decide_eq_true c5
    clear c5
    have HC6 := Aside0.mk H
    clear H
    go_enter Tryd.func6, Tryd.ntmps6
    go_upto_if 22 with (first | ((with_reducible refine gate_dst (N := 1) rfl ?_); refine box_event ?hg (N := 1) ?hd (cs := #[.int .i64 a0_0, .int .i64 a0_1, .int .i64 a0_2, .int .i64 a0_3, .int .i64 a0_4, .int .i64 a0_5, .int .i64 a0_6]) (t := 29) ?hr ?_; (case hd => rfl); (case hg => rfl); (case hr => first | (go_simp; done) | (go_simp; rfl)); intro gb111 hg w7 hbox hb; have n0_ := Aside0.mk (below_step (by repeat (first | (with_reducible first | exact HB.out | apply below_alloc | apply pw_below_drewN | apply below_drew1) | exact HB.out)) hb); have n1_ := Aside0.mk (hbox); have n2_ := Aside0.mk ((by rw [hg]; exact (below_size (by repeat (first | (with_reducible first | exact HB.out | apply below_alloc | apply pw_below_drewN | apply below_drew1) | exact HB.out))) : w.heap.size ≤ gb111)); have n3_ := Aside0.mk ((by rw [hg]; exact (below_size (by repeat (first | (with_reducible first | exact HB.out | apply below_alloc | apply pw_below_drewN | apply below_drew1) | exact HB.out))) : w.heap.size ≤ gb111)); clear HB; have HB := n0_; have BK111 := n1_; have GW111 := n2_; have GE111 := n3_; clear n0_ n1_ n2_ n3_; clear hb hbox hg; have hcz8_0 : w7.cell? ⟨gb111, 0, none⟩ = some (.int .i64 a0_0) := (blk_cell BK111.out 0).trans rfl; have hcz8_1 : w7.cell? ⟨gb111, 1, none⟩ = some (.int .i64 a0_1) := (blk_cell BK111.out 1).trans rfl; have hcz8_2 : w7.cell? ⟨gb111, 2, none⟩ = some (.int .i64 a0_2) := (blk_cell BK111.out 2).trans rfl; have hcz8_3 : w7.cell? ⟨gb111, 3, none⟩ = some (.int .i64 a0_3) := (blk_cell BK111.out 3).trans rfl; have hcz8_4 : w7.cell? ⟨gb111, 4, none⟩ = some (.int .i64 a0_4) := (blk_cell BK111.out 4).trans rfl; have hcz8_5 : w7.cell? ⟨gb111, 5, none⟩ = some (.int .i64 a0_5) := (blk_cell BK111.out 5).trans rfl; have hcz8_6 : w7.cell? ⟨gb111, 6, none⟩ = some (.int .i64 a0_6) := (blk_cell BK111.out 6).trans rfl; have hfz8_0 := blk_frozen BK111.out 0; have hfz8_1 := blk_frozen BK111.out 1; have hfz8_2 := blk_frozen BK111.out 2; have hfz8_3 := blk_frozen BK111.out 3; have hfz8_4 := blk_frozen BK111.out 4; have hfz8_5 := blk_frozen BK111.out 5; have hfz8_6 := blk_frozen BK111.out 6) | ((with_reducible refine gate_callee (f := 13) rfl ?_); refine goesL_ (some 11) rfl rfl Tryd.func13 (by kernel_rfl) rfl #[.agg #[.int .i64 a0_0, .int .i64 a0_1, .int .i64 a0_2, .int .i64 a0_3, .int .i64 a0_4, .int .i64 a0_5, .int .i64 a0_6]] rfl (by (try simp only [List.map_toArray, List.map_cons, List.map_nil]); first | done | rfl | (simp only [List.length_drop, List.length_take]; rfl)) ?_; (with_reducible refine (link_Right.calls a0_0 a0_1 a0_2 a0_3 a0_4 a0_5 a0_6 true _ A2.out).mono ?_); rintro e w9 ⟨rfl, hb⟩; refine ⟨_, rfl, ?_⟩; have n0_ := Aside0.mk (blk_below (g := gb111) (o := .cells #[.int .i64 a0_0, .int .i64 a0_1, .int .i64 a0_2, .int .i64 a0_3, .int .i64 a0_4, .int .i64 a0_5, .int .i64 a0_6] 29 (0, 0)) (by (with_reducible repeat (first | refine blk_drewN ?_ _ | refine blk_drew ?_ | refine blk_alloc ?_ _)); exact BK111.out) hb); have n1_ := Aside0.mk (below_step (by repeat (first | (with_reducible first | exact HB.out | apply below_alloc | apply pw_below_drewN | apply below_drew1 | refine below_set ?_ GE111.out) | exact HB.out)) hb); clear BK111; clear HB; have BK111 := n0_; have HB := n1_; clear n0_ n1_; (try clear hb); (try clear hb2); (try clear hk); (try clear hi)) | ((with_reducible refine gate_dst (N := 13) rfl ?_); refine Kd.R_lit Kd.string _ 9 ?hg (N := 13) ?hd (xs := ([(⟨#[]⟩ : ByteArray), (⟨#[116, 105, 99, 107]⟩ : ByteArray), (⟨#[105, 110, 118, 111, 107, 101]⟩ : ByteArray), (⟨#[112, 111, 105, 110, 116]⟩ : ByteArray), (⟨#[97, 99, 116]⟩ : ByteArray), (⟨#[114, 101, 116, 117, 114, 110]⟩ : ByteArray)] : List ByteArray)) (inner := [.string (⟨#[]⟩ : ByteArray), .string (⟨#[116, 105, 99, 107]⟩ : ByteArray), .string (⟨#[105, 110, 118, 111, 107, 101]⟩ : ByteArray), .string (⟨#[112, 111, 105, 110, 116]⟩ : ByteArray), .string (⟨#[97, 99, 116]⟩ : ByteArray), .string (⟨#[114, 101, 116, 117, 114, 110]⟩ : ByteArray)]) (ok := fun _ => True) (okp := fun _ => True) ?hr ?hp (fun _ hk => hk) trivial (Below.refl _ _) (Nat.le_refl _) (by simp) ?_; (case hd => rfl); (case hg => rfl); (case hr => first | (go_simp; done) | (go_simp; rfl)); (case hp => exact (Reps.one (show Kd.M Kd.string _ _ _ (⟨#[]⟩ : ByteArray) [.string (⟨#[]⟩ : ByteArray)] from rfl) (Reps.one (show Kd.M Kd.string _ _ _ (⟨#[116, 105, 99, 107]⟩ : ByteArray) [.string (⟨#[116, 105, 99, 107]⟩ : ByteArray)] from rfl) (Reps.one (show Kd.M Kd.string _ _ _ (⟨#[105, 110, 118, 111, 107, 101]⟩ : ByteArray) [.string (⟨#[105, 110, 118, 111, 107, 101]⟩ : ByteArray)] from rfl) (Reps.one (show Kd.M Kd.string _ _ _ (⟨#[112, 111, 105, 110, 116]⟩ : ByteArray) [.string (⟨#[112, 111, 105, 110, 116]⟩ : ByteArray)] from rfl) (Reps.one (show Kd.M Kd.string _ _ _ (⟨#[97, 99, 116]⟩ : ByteArray) [.string (⟨#[97, 99, 116]⟩ : ByteArray)] from rfl) (Reps.one (show Kd.M Kd.string _ _ _ (⟨#[114, 101, 116, 117, 114, 110]⟩ : ByteArray) [.string (⟨#[114, 101, 116, 117, 114, 110]⟩ : ByteArray)] from rfl) (Reps.none _ _)))))))); intro v114 w10 ho11 hb hg_ hnew_; clear hg_ hnew_; (first | rw [← Ny113.out] at ho11 | (simp only [Int.reduceToNat] at ho11; rw [← Ny113.out] at ho11)); have n0_ := Aside0.mk (Kd.R_lower ho11 (below_size (by repeat (first | (with_reducible first | exact HB.out | apply below_alloc | apply pw_below_drewN | apply below_drew1 | refine below_set ?_ GE111.out) | exact HB.out)))); have n1_ := Aside0.mk (blk_below (g := gb111) (o := .cells #[.int .i64 a0_0, .int .i64 a0_1, .int .i64 a0_2, .int .i64 a0_3, .int .i64 a0_4, .int .i64 a0_5, .int .i64 a0_6] 29 (0, 0)) (by (with_reducible repeat (first | refine blk_drewN ?_ _ | refine blk_drew ?_ | refine blk_alloc ?_ _)); exact BK111.out) hb); have n2_ := Aside0.mk (below_step (by repeat (first | (with_reducible first | exact HB.out | apply below_alloc | apply pw_below_drewN | apply below_drew1 | refine below_set ?_ GE111.out) | exact HB.out)) hb); clear BK111; clear HB; have HO115 := n0_; have BK111 := n1_; have HB := n2_; clear n0_ n1_ n2_; clear hb ho11) | ((with_reducible refine gate_dst (N := 14) rfl ?_); refine Kd.R_lit Kd.string _ 9 ?hg (N := 14) ?hd (xs := ([(⟨#[]⟩ : ByteArray), (⟨#[111, 112, 101, 110]⟩ : ByteArray), (⟨#[116, 111, 117, 99, 104]⟩ : ByteArray), (⟨#[99, 108, 111, 115, 101]⟩ : ByteArray), (⟨#[102, 97, 105, 108]⟩ : ByteArray), (⟨#[115, 117, 99, 99, 101, 115, 115]⟩ : ByteArray), (⟨#[97, 100, 118, 97, 110, 99, 101]⟩ : ByteArray), (⟨#[105, 100, 108, 101]⟩ : ByteArray), (⟨#[114, 101, 116, 114, 121]⟩ : ByteArray)] : List ByteArray)) (inner := [.string (⟨#[]⟩ : ByteArray), .string (⟨#[111, 112, 101, 110]⟩ : ByteArray), .string (⟨#[116, 111, 117, 99, 104]⟩ : ByteArray), .string (⟨#[99, 108, 111, 115, 101]⟩ : ByteArray), .string (⟨#[102, 97, 105, 108]⟩ : ByteArray), .string (⟨#[115, 117, 99, 99, 101, 115, 115]⟩ : ByteArray), .string (⟨#[97, 100, 118, 97, 110, 99, 101]⟩ : ByteArray), .string (⟨#[105, 100, 108, 101]⟩ : ByteArray), .string (⟨#[114, 101, 116, 114, 121]⟩ : ByteArray)]) (ok := fun _ => True) (okp := fun _ => True) ?hr ?hp (fun _ hk => hk) trivial (Below.refl _ _) (Nat.le_refl _) (by simp) ?_; (case hd => rfl); (case hg => rfl); (case hr => first | (go_simp; done) | (go_simp; rfl)); (case hp => exact (Reps.one (show Kd.M Kd.string _ _ _ (⟨#[]⟩ : ByteArray) [.string (⟨#[]⟩ : ByteArray)] from rfl) (Reps.one (show Kd.M Kd.string _ _ _ (⟨#[111, 112, 101, 110]⟩ : ByteArray) [.string (⟨#[111, 112, 101, 110]⟩ : ByteArray)] from rfl) (Reps.one (show Kd.M Kd.string _ _ _ (⟨#[116, 111, 117, 99, 104]⟩ : ByteArray) [.string (⟨#[116, 111, 117, 99, 104]⟩ : ByteArray)] from rfl) (Reps.one (show Kd.M Kd.string _ _ _ (⟨#[99, 108, 111, 115, 101]⟩ : ByteArray) [.string (⟨#[99, 108, 111, 115, 101]⟩ : ByteArray)] from rfl) (Reps.one (show Kd.M Kd.string _ _ _ (⟨#[102, 97, 105, 108]⟩ : ByteArray) [.string (⟨#[102, 97, 105, 108]⟩ : ByteArray)] from rfl) (Reps.one (show Kd.M Kd.string _ _ _ (⟨#[115, 117, 99, 99, 101, 115, 115]⟩ : ByteArray) [.string (⟨#[115, 117, 99, 99, 101, 115, 115]⟩ : ByteArray)] from rfl) (Reps.one (show Kd.M Kd.string _ _ _ (⟨#[97, 100, 118, 97, 110, 99, 101]⟩ : ByteArray) [.string (⟨#[97, 100, 118, 97, 110, 99, 101]⟩ : ByteArray)] from rfl) (Reps.one (show Kd.M Kd.string _ _ _ (⟨#[105, 100, 108, 101]⟩ : ByteArray) [.string (⟨#[105, 100, 108, 101]⟩ : ByteArray)] from rfl) (Reps.one (show Kd.M Kd.string _ _ _ (⟨#[114, 101, 116, 114, 121]⟩ : ByteArray) [.string (⟨#[114, 101, 116, 114, 121]⟩ : ByteArray)] from rfl) (Reps.none _ _))))))))))); intro v117 w12 ho13 hb hg_ hnew_; clear hg_ hnew_; (first | rw [← Ny116.out] at ho13 | (simp only [Int.reduceToNat] at ho13; rw [← Ny116.out] at ho13)); have n0_ := Aside0.mk (Kd.R_elder' (by (with_reducible repeat (first | apply Kd.R_alloc | apply Kd.R_drewN | apply Kd.R_drew)); exact HO115.out) (Kd.R_base ho13) hb); have n1_ := Aside0.mk (Kd.R_lower (Kd.R_new' ho13 (Kd.R_lt (by (with_reducible repeat (first | apply Kd.R_alloc | apply Kd.R_drewN | apply Kd.R_drew)); exact HO115.out))) (below_size (by repeat (first | (with_reducible first | exact HB.out | apply below_alloc | apply pw_below_drewN | apply below_drew1 | refine below_set ?_ GE111.out) | exact HB.out)))); have n2_ := Aside0.mk (blk_below (g := gb111) (o := .cells #[.int .i64 a0_0, .int .i64 a0_1, .int .i64 a0_2, .int .i64 a0_3, .int .i64 a0_4, .int .i64 a0_5, .int .i64 a0_6] 29 (0, 0)) (by (with_reducible repeat (first | refine blk_drewN ?_ _ | refine blk_drew ?_ | refine blk_alloc ?_ _)); exact BK111.out) hb); have n3_ := Aside0.mk (below_step (by repeat (first | (with_reducible first | exact HB.out | apply below_alloc | apply pw_below_drewN | apply below_drew1 | refine below_set ?_ GE111.out) | exact HB.out)) hb); clear HO115; clear BK111; clear HB; have HO115 := n0_; have HO118 := n1_; have BK111 := n2_; have HB := n3_; clear n0_ n1_ n2_ n3_; clear hb ho13; have hcz14_0 : w12.cell? ⟨gb111, 0, none⟩ = some (.int .i64 a0_0) := (blk_cell BK111.out 0).trans rfl; have hcz14_1 : w12.cell? ⟨gb111, 1, none⟩ = some (.int .i64 a0_1) := (blk_cell BK111.out 1).trans rfl; have hcz14_2 : w12.cell? ⟨gb111, 2, none⟩ = some (.int .i64 a0_2) := (blk_cell BK111.out 2).trans rfl; have hcz14_3 : w12.cell? ⟨gb111, 3, none⟩ = some (.int .i64 a0_3) := (blk_cell BK111.out 3).trans rfl; have hcz14_4 : w12.cell? ⟨gb111, 4, none⟩ = some (.int .i64 a0_4) := (blk_cell BK111.out 4).trans rfl; have hcz14_5 : w12.cell? ⟨gb111, 5, none⟩ = some (.int .i64 a0_5) := (blk_cell BK111.out 5).trans rfl; have hcz14_6 : w12.cell? ⟨gb111, 6, none⟩ = some (.int .i64 a0_6) := (blk_cell BK111.out 6).trans rfl; have hfz14_0 := blk_frozen BK111.out 0; have hfz14_1 := blk_frozen BK111.out 1; have hfz14_2 := blk_frozen BK111.out 2; have hfz14_3 := blk_frozen BK111.out 3; have hfz14_4 := blk_frozen BK111.out 4; have hfz14_5 := blk_frozen BK111.out 5; have hfz14_6 := blk_frozen BK111.out 6; obtain ⟨Ao15, co15, eo15⟩ := Kd.R_slice HO115.out; subst eo15; have p119 : 0 ≤ (a0_0 : Int) := of_decide_eq_true (by first | (with_reducible assumption) | assumption); have q119 : a0_0 < (y113.length : Int) := of_decide_eq_true (by first | (with_reducible assumption) | assumption); obtain ⟨ad119, e119, hx119_0⟩ := Kd.at_string (Kd.R_reads' HO115.out).2.2 a0_0 p119 q119; cases e119; replace p119 := eq_true p119; replace q119 := eq_true q119))
    (try simp only [Act.put, sQ0, sQ1, sQ2])
    go_cut [5] (fun v5 wc => ∃ (kq : Nat) (x5_5 : ByteArray), v5 = .string x5_5 ∧ Aside0 (link_Line.j0 kq x5_5 a0_0 a0_1 a0_2 a0_3 a0_4 a0_5 a0_6 = some r) ∧ Aside0 (kq ≤ k) ∧ Aside0 (wc.heap[gb111]? = some (.cells #[.int .i64 a0_0, .int .i64 a0_1, .int .i64 a0_2, .int .i64 a0_3, .int .i64 a0_4, .int .i64 a0_5, .int .i64 a0_6] 29 (0, 0))) ∧ Aside0 (Below w.heap.size w wc))
    case first =>
     have H := HC6.out
     clear HC6
     by_cases c16 : a0_0 = 1
     ·rw [if_pos c16] at H
      have c16b0 : (a0_0 == 1) = true := beq_iff_eq.mpr c16
      have c16b1 : (a0_0 != 1) = false := bne_eq_false_iff_eq.mpr c16
      clear c16
      (first | rw [c16b0] | (simp only [i64_w, i32_w]; rw [c16b0]) | skip)
      have H' := Aside0.mk H
      clear H
      go_wp2
      go_meet
      case rel => exact ⟨_, (rdOf ByteArray.empty y113 a0_0), (by first | rfl | (simp; done) | (simp [*]; done)), H', ⟨by first | omega | exact Nat.le_refl _⟩, ⟨by (with_reducible repeat (first | refine blk_drewN ?_ _ | refine blk_drew ?_ | refine blk_alloc ?_ _)); exact BK111.out⟩, ⟨by repeat (first | (with_reducible first | exact HB.out | apply below_alloc | apply pw_below_drewN | apply below_drew1 | refine below_set ?_ GE111.out) | exact HB.out)⟩⟩
     ·rw [if_neg c16] at H
      have c16b0 : (a0_0 == 1) = false := beq_eq_false_iff_ne.mpr c16
      have c16b1 : (a0_0 != 1) = true := bne_iff_ne.mpr c16
      (first | rw [c16b0] | (simp only [i64_w, i32_w]; rw [c16b0]) | skip)
      replace H := Option.bind_eq_some_iff.mp H
      obtain ⟨t120, A170, H⟩ := H
      replace H : (if 1 + t120.size ≤ 9223372036854775807 then (if ((⟨#[32]⟩ : ByteArray) ++ t120).size + 1 ≤ 9223372036854775807 then (if 0 ≤ a0_2 then (if a0_2 < (y116.length : Int) then (if (((⟨#[32]⟩ : ByteArray) ++ t120) ++ (⟨#[32]⟩ : ByteArray)).size + (rdOf ByteArray.empty y116 a0_2).size ≤ 9223372036854775807 then (if (rdOf ByteArray.empty y113 a0_0).size + ((((⟨#[32]⟩ : ByteArray) ++ t120) ++ (⟨#[32]⟩ : ByteArray)) ++ (rdOf ByteArray.empty y116 a0_2)).size ≤ 9223372036854775807 then (link_Line.j0 k ((rdOf ByteArray.empty y113 a0_0) ++ ((((⟨#[32]⟩ : ByteArray) ++ t120) ++ (⟨#[32]⟩ : ByteArray)) ++ (rdOf ByteArray.empty y116 a0_2))) a0_0 a0_1 a0_2 a0_3 a0_4 a0_5 a0_6) else (none)) else (none)) else (none)) else (none)) else (none)) else (none)) = some r := H
      have A17 := Aside0.mk A170
      clear A170
      by_cases c18 : 1 + t120.size ≤ 9223372036854775807
      ·rw [if_pos c18] at H
       have c18b0 := eq_true c18
       have c18b1 : decide (1 + t120.size ≤ 9223372036854775807) = true := decide_eq_true c18
       try have c18b2 : (9223372036854775807 < 1 + t120.size) = False := eq_false (Nat.not_lt.2 c18)
       by_cases c19 : ((⟨#[32]⟩ : ByteArray) ++ t120).size + 1 ≤ 9223372036854775807
       ·rw [if_pos c19] at H
        have c19b0 := eq_true c19
        have c19b1 : decide (((⟨#[32]⟩ : ByteArray) ++ t120).size + 1 ≤ 9223372036854775807) = true := decide_eq_true c19
        try have c19b2 : (9223372036854775807 < ((⟨#[32]⟩ : ByteArray) ++ t120).size + 1) = False := eq_false (Nat.not_lt.2 c19)
        try have c19b3 : (9223372036854775807 < 1 + t120.size + 1) = False := eq_false (Nat.not_lt.2 (by have q := c19; simp only [ByteArray.size_append] at q; exact q))
        by_cases c20 : 0 ≤ a0_2
        ·rw [if_pos c20] at H
         have c20b0 : decide (0 ≤ a0_2) = true := decide_eq_true c20
         clear c20
         by_cases c21 : a0_2 < (y116.length : Int)
         ·rw [if_pos c21] at H
          have c21b0 : decide (a0_2 < (y116.length : Int)) = true := decide_eq_true c21
          clear c21
          by_cases c22 : (((⟨#[32]⟩ : ByteArray) ++ t120) ++ (⟨#[32]⟩ : ByteArray)).size + (rdOf ByteArray.empty y116 a0_2).size ≤ 9223372036854775807
          ·rw [if_pos c22] at H
           have c22b0 := eq_true c22
           have c22b1 : decide ((((⟨#[32]⟩ : ByteArray) ++ t120) ++ (⟨#[32]⟩ : ByteArray)).size + (rdOf ByteArray.empty y116 a0_2).size ≤ 9223372036854775807) = true := decide_eq_true c22
           try have c22b2 : (9223372036854775807 < (((⟨#[32]⟩ : ByteArray) ++ t120) ++ (⟨#[32]⟩ : ByteArray)).size + (rdOf ByteArray.empty y116 a0_2).size) = False := eq_false (Nat.not_lt.2 c22)
           try have c22b3 : (9223372036854775807 < 1 + t120.size + 1 + (rdOf ByteArray.empty y116 a0_2).size) = False := eq_false (Nat.not_lt.2 (by have q := c22; simp only [ByteArray.size_append] at q; exact q))
           by_cases c23 : (rdOf ByteArray.empty y113 a0_0).size + ((((⟨#[32]⟩ : ByteArray) ++ t120) ++ (⟨#[32]⟩ : ByteArray)) ++ (rdOf ByteArray.empty y116 a0_2)).size ≤ 9223372036854775807
           ·rw [if_pos c23] at H
            have c23b0 := eq_true c23
            have c23b1 : decide ((rdOf ByteArray.empty y113 a0_0).size + ((((⟨#[32]⟩ : ByteArray) ++ t120) ++ (⟨#[32]⟩ : ByteArray)) ++ (rdOf ByteArray.empty y116 a0_2)).size ≤ 9223372036854775807) = true := decide_eq_true c23
            try have c23b2 : (9223372036854775807 < (rdOf ByteArray.empty y113 a0_0).size + ((((⟨#[32]⟩ : ByteArray) ++ t120) ++ (⟨#[32]⟩ : ByteArray)) ++ (rdOf ByteArray.empty y116 a0_2)).size) = False := eq_false (Nat.not_lt.2 c23)
            try have c23b3 : (9223372036854775807 < (rdOf ByteArray.empty y113 a0_0).size + (1 + t120.size + 1 + (rdOf ByteArray.empty y116 a0_2).size)) = False := eq_false (Nat.not_lt.2 (by have q := c23; simp only [ByteArray.size_append] at q; exact q))
            have H' := Aside0.mk H
            clear H
            try go_wp2
            have n0_ := Aside0.mk (Kd.R_drew HO115.out)
            have n1_ := Aside0.mk (Kd.R_drew HO118.out)
            have n2_ := Aside0.mk (blk_drew BK111.out)
            have n3_ := Aside0.mk (below_drew1 HB.out)
            clear HO115
            clear HO118
            clear BK111
            clear HB
            have HO115 := n0_
            have HO118 := n1_
            have BK111 := n2_
            have HB := n3_
            clear n0_ n1_ n2_ n3_
            obtain ⟨Ao25, co25, eo25⟩ := Kd.R_slice HO118.out
            (first | subst eo25 | (injection eo25 with f1_ f2_ f3_; have f4_ := f1_.symm; have f5_ := f3_.symm; clear f1_ f2_ f3_; subst f4_; subst f5_))
            have p121 : 0 ≤ (a0_2 : Int) := of_decide_eq_true (by first | (with_reducible assumption) | assumption)
            have q121 : a0_2 < (y116.length : Int) := of_decide_eq_true (by first | (with_reducible assumption) | assumption)
            obtain ⟨ad121, e121, hx121_0⟩ := Kd.at_string (Kd.R_reads' HO118.out).2.2 a0_2 p121 q121
            cases e121
            replace p121 := eq_true p121
            replace q121 := eq_true q121
            refine start_ (n := 14) (S := fun w' => w'.cell? ⟨gb111, 0, none⟩ = some (.int .i64 a0_0) ∧ w'.cell? ⟨gb111, 1, none⟩ = some (.int .i64 a0_1) ∧ w'.cell? ⟨gb111, 2, none⟩ = some (.int .i64 a0_2) ∧ w'.cell? ⟨gb111, 3, none⟩ = some (.int .i64 a0_3) ∧ w'.cell? ⟨gb111, 4, none⟩ = some (.int .i64 a0_4) ∧ w'.cell? ⟨gb111, 5, none⟩ = some (.int .i64 a0_5) ∧ w'.cell? ⟨gb111, 6, none⟩ = some (.int .i64 a0_6) ∧ w'.cell? (ad121.add (a0_2).toNat) = some (.string (rdOf ByteArray.empty y116 a0_2))) (ds := []) #[ff,ff,ff,ff,ff,ff,ff,ff,ff,ff,ff,ff,ff,ff] (by kernel_rfl) rfl rfl ⟨(blk_cell BK111.out 0).trans rfl, (blk_cell BK111.out 1).trans rfl, (blk_cell BK111.out 2).trans rfl, (blk_cell BK111.out 3).trans rfl, (blk_cell BK111.out 4).trans rfl, (blk_cell BK111.out 5).trans rfl, (blk_cell BK111.out 6).trans rfl, hx121_0⟩ (fun hHeld => ?_); refine with_tabW link_Line.tab7 link_Line.bits7 (fun HT_ HW_ => ?_)
            generalize w12.drew = w24 at HO115 HO118 BK111 HB hx121_0 hHeld ⊢
            refine pure_ (i := 0) (N := some 23) (v := ?_) (a' := ?_) #[tt,ff,ff,ff,ff,ff,ff,ff,ff,ff,ff,ff,ff,ff] rfl rfl (any_of HT_.out (by kernel_rfl)) (fun _ _ _ h => h) (Or.inl ⟨by rfl, ?_⟩) ?_ ?_
            rotate_left
            ·intro w'
             go_simp
             with_reducible rfl
            rotate_left
            ·simp only [Act.put, sQ0, sQ1, sQ2, i64_w]
             rfl
            refine pure_ (i := 1) (N := some 24) (v := ?_) (a' := ?_) #[tt,tt,ff,ff,ff,ff,ff,ff,ff,ff,ff,ff,ff,ff] rfl rfl (any_of HT_.out (by kernel_rfl)) (fun _ _ _ h => h) (Or.inl ⟨by rfl, ?_⟩) ?_ ?_
            rotate_left
            ·intro w'
             go_simp
             with_reducible rfl
            rotate_left
            ·simp only [Act.put, sQ0, sQ1, sQ2, i64_w]
             rfl
            refine pure_ (i := 6) (N := some 29) (v := ?_) (a' := ?_) #[tt,tt,ff,ff,ff,ff,tt,ff,ff,ff,ff,ff,ff,ff] rfl rfl (any_of HT_.out (by kernel_rfl)) (fun _ _ _ h => h) (Or.inl ⟨by rfl, ?_⟩) ?_ ?_
            rotate_left
            ·intro w'
             go_simp
             with_reducible rfl
            rotate_left
            ·simp only [Act.put, sQ0, sQ1, sQ2, i64_w]
             rfl
            refine pure_ (i := 7) (N := some 30) (v := ?_) (a' := ?_) #[tt,tt,ff,ff,ff,ff,tt,tt,ff,ff,ff,ff,ff,ff] rfl rfl (any_of HT_.out (by kernel_rfl)) (fun _ _ _ h => h) (Or.inl ⟨by rfl, ?_⟩) ?_ ?_
            rotate_left
            ·intro w'
             go_simp
             with_reducible rfl
            rotate_left
            ·simp only [Act.put, sQ0, sQ1, sQ2, i64_w]
             rfl
            refine take_ (i := 2) (N := some 25) (v := ?_) (a' := ?_) #[tt,tt,tt,ff,ff,ff,tt,tt,ff,ff,ff,ff,ff,ff] rfl rfl (take_ofW HT_.out HW_.out (by kernel_rfl)) (fun _ _ _ h => h) (Or.inl ⟨by rfl, ?_⟩) hHeld ?_ ?_
            rotate_left
            ·rintro w' ⟨s0, s1, s2, s3, s4, s5, s6, s7⟩
             go_simp
             with_reducible rfl
            rotate_left
            ·simp only [Act.put, sQ0, sQ1, sQ2, i64_w]
             rfl
            refine take_ (i := 8) (N := some 31) (v := ?_) (a' := ?_) #[tt,tt,tt,ff,ff,ff,tt,tt,tt,ff,ff,ff,ff,ff] rfl rfl (take_ofW HT_.out HW_.out (by kernel_rfl)) (fun _ _ _ h => h) (Or.inl ⟨by rfl, ?_⟩) hHeld ?_ ?_
            rotate_left
            ·rintro w' ⟨s0, s1, s2, s3, s4, s5, s6, s7⟩
             go_simp
             with_reducible rfl
            rotate_left
            ·simp only [Act.put, sQ0, sQ1, sQ2, i64_w]
             rfl
            refine pure_ (i := 9) (N := some 32) (v := ?_) (a' := ?_) #[tt,tt,tt,ff,ff,ff,tt,tt,tt,tt,ff,ff,ff,ff] rfl rfl (any_of HT_.out (by kernel_rfl)) (fun _ _ _ h => h) (Or.inl ⟨by rfl, ?_⟩) ?_ ?_
            rotate_left
            ·intro w'
             go_simp
             with_reducible rfl
            rotate_left
            ·simp only [Act.put, sQ0, sQ1, sQ2, i64_w]
             rfl
            refine take_ (i := 10) (N := some 33) (v := ?_) (a' := ?_) #[tt,tt,tt,ff,ff,ff,tt,tt,tt,tt,tt,ff,ff,ff] rfl rfl (take_ofW HT_.out HW_.out (by kernel_rfl)) (fun _ _ _ h => h) (Or.inl ⟨by rfl, ?_⟩) hHeld ?_ ?_
            rotate_left
            ·rintro w' ⟨s0, s1, s2, s3, s4, s5, s6, s7⟩
             go_simp
             with_reducible rfl
            rotate_left
            ·simp only [Act.put, sQ0, sQ1, sQ2, i64_w]
             rfl
            refine one_ (i := 3) (N := some 26) #[tt,tt,tt,tt,ff,ff,tt,tt,tt,tt,tt,ff,ff,ff] rfl rfl (one_of HT_.out (by kernel_rfl)) (by decide) (fun K hK => ?_)
            refine goes_ Tryd.func14 (by kernel_rfl) rfl #[.int .i64 a0_1] (by rfl) rfl rfl (by (try simp only [List.map_toArray, List.map_cons, List.map_nil]); first | done | rfl | (simp only [List.length_drop, List.length_take]; rfl)) ?_
            with_reducible refine (strconv_Itoa_14.calls a0_1 t120 _ (Go.Proofs.YthljanmfanppdaaDoor.Lw.Tab.below HTAB_.out (by repeat (first | (with_reducible first | exact HB.out | apply below_alloc | apply pw_below_drewN | apply below_drew1) | exact HB.out))) A17.out).mono ?_
            rintro e w26 ⟨rfl, hb⟩
            have HS7_ := (hb.cell (World.block_lt_of_cell? _ _ (hHeld.2.2.2.2.2.2.2))).trans (hHeld.2.2.2.2.2.2.2)
            refine ⟨_, rfl, ?_⟩
            have n0_ := Aside0.mk (Kd.R_below (by (with_reducible repeat (first | apply Kd.R_alloc | apply Kd.R_drewN | apply Kd.R_drew)); exact HO115.out) hb)
            have n1_ := Aside0.mk (Kd.R_below (by (with_reducible repeat (first | apply Kd.R_alloc | apply Kd.R_drewN | apply Kd.R_drew)); exact HO118.out) hb)
            have n2_ := Aside0.mk (blk_below (g := gb111) (o := .cells #[.int .i64 a0_0, .int .i64 a0_1, .int .i64 a0_2, .int .i64 a0_3, .int .i64 a0_4, .int .i64 a0_5, .int .i64 a0_6] 29 (0, 0)) (by (with_reducible repeat (first | refine blk_drewN ?_ _ | refine blk_drew ?_ | refine blk_alloc ?_ _)); exact BK111.out) hb)
            have n3_ := Aside0.mk (below_step (by repeat (first | (with_reducible first | exact HB.out | apply below_alloc | apply pw_below_drewN | apply below_drew1 | refine below_set ?_ GE111.out) | exact HB.out)) hb)
            clear HO115
            clear HO118
            clear BK111
            clear HB
            have HO115 := n0_
            have HO118 := n1_
            have BK111 := n2_
            have HB := n3_
            clear n0_ n1_ n2_ n3_
            (try clear hb)
            (try clear hb2)
            (try clear hk)
            (try clear hi)
            refine hK.out _ _ ⟨(blk_cell BK111.out 0).trans rfl, (blk_cell BK111.out 1).trans rfl, (blk_cell BK111.out 2).trans rfl, (blk_cell BK111.out 3).trans rfl, (blk_cell BK111.out 4).trans rfl, (blk_cell BK111.out 5).trans rfl, (blk_cell BK111.out 6).trans rfl, HS7_⟩ (fun hHeld => ?_)
            clear hK K
            refine norm_ (a' := ?_) ?_ ?_
            rotate_left
            ·show Act.put _ (some 26) _ = _
             simp only [Act.put, sQ0, sQ1, sQ2, i64_w]
             rfl
            refine pure_ (i := 4) (N := some 27) (v := ?_) (a' := ?_) #[tt,tt,tt,tt,tt,ff,tt,tt,tt,tt,tt,ff,ff,ff] rfl rfl (any_of HT_.out (by kernel_rfl)) (fun _ _ _ h => h) (Or.inl ⟨by rfl, ?_⟩) ?_ ?_
            rotate_left
            ·intro w'
             go_simp
             with_reducible rfl
            rotate_left
            ·simp only [Act.put, sQ0, sQ1, sQ2, i64_w]
             rfl
            refine pure_ (i := 5) (N := some 28) (v := ?_) (a' := ?_) #[tt,tt,tt,tt,tt,tt,tt,tt,tt,tt,tt,ff,ff,ff] rfl rfl (any_of HT_.out (by kernel_rfl)) (fun _ _ _ h => h) (Or.inl ⟨by rfl, ?_⟩) ?_ ?_
            rotate_left
            ·intro w'
             go_simp
             with_reducible rfl
            rotate_left
            ·simp only [Act.put, sQ0, sQ1, sQ2, i64_w]
             rfl
            refine pure_ (i := 11) (N := some 34) (v := ?_) (a' := ?_) #[tt,tt,tt,tt,tt,tt,tt,tt,tt,tt,tt,tt,ff,ff] rfl rfl (any_of HT_.out (by kernel_rfl)) (fun _ _ _ h => h) (Or.inl ⟨by rfl, ?_⟩) ?_ ?_
            rotate_left
            ·intro w'
             go_simp
             with_reducible rfl
            rotate_left
            ·simp only [Act.put, sQ0, sQ1, sQ2, i64_w]
             rfl
            refine pure_ (i := 12) (N := some 35) (v := ?_) (a' := ?_) #[tt,tt,tt,tt,tt,tt,tt,tt,tt,tt,tt,tt,tt,ff] rfl rfl (any_of HT_.out (by kernel_rfl)) (fun _ _ _ h => h) (Or.inl ⟨by rfl, ?_⟩) ?_ ?_
            rotate_left
            ·intro w'
             go_simp
             with_reducible rfl
            rotate_left
            ·simp only [Act.put, sQ0, sQ1, sQ2, i64_w]
             rfl
            refine pure_ (i := 13) (N := some 5) (v := ?_) (a' := ?_) #[tt,tt,tt,tt,tt,tt,tt,tt,tt,tt,tt,tt,tt,tt] rfl rfl (any_of HT_.out (by kernel_rfl)) (fun _ _ _ h => h) (Or.inl ⟨by rfl, ?_⟩) ?_ ?_
            rotate_left
            ·intro w'
             go_simp
             with_reducible rfl
            rotate_left
            ·simp only [Act.put, sQ0, sQ1, sQ2, i64_w]
             rfl
            refine done_ (done_of HT_.out (by kernel_rfl)) ?_
            try go_wp2
            go_meet
            case rel => exact ⟨_, ((rdOf ByteArray.empty y113 a0_0) ++ ((((⟨#[32]⟩ : ByteArray) ++ t120) ++ (⟨#[32]⟩ : ByteArray)) ++ (rdOf ByteArray.empty y116 a0_2))), (by first | rfl | (simp; done) | (simp [*]; done)), H', ⟨by first | omega | exact Nat.le_refl _⟩, ⟨by (with_reducible repeat (first | refine blk_drewN ?_ _ | refine blk_drew ?_ | refine blk_alloc ?_ _)); exact BK111.out⟩, ⟨by repeat (first | (with_reducible first | exact HB.out | apply below_alloc | apply pw_below_drewN | apply below_drew1 | refine below_set ?_ GE111.out) | exact HB.out)⟩⟩
           ·rw [if_neg c23] at H
            exact absurd H (by simp)
          ·rw [if_neg c22] at H
           exact absurd H (by simp)
         ·rw [if_neg c21] at H
          exact absurd H (by simp)
        ·rw [if_neg c20] at H
         exact absurd H (by simp)
       ·rw [if_neg c19] at H
        exact absurd H (by simp)
      ·rw [if_neg c18] at H
       exact absurd H (by simp)
    case rest =>
     clear HC6
     try clear c1
     try clear p1
     try clear q1
     try clear hx1
     try clear c2
     try clear p2
     try clear c3
     try clear c4
     try clear c4b0
     try clear c5
     try clear c5b0
     try clear c6
     try clear p11
     try clear q11
     try clear hx11
     try clear p12
     try clear q12
     try clear hx12
     try clear c13
     try clear c14
     try clear c16
     try clear c16b0
     try clear c16b1
     try clear c18
     try clear c18b0
     try clear c18b1
     try clear c18b2
     try clear c19
     try clear c19b0
     try clear c19b1
     try clear c19b2
     try clear c20
     try clear c20b0
     try clear c21
     try clear c21b0
     try clear c22
     try clear c22b0
     try clear c22b1
     try clear c22b2
     try clear c23
     try clear c23b0
     try clear c23b1
     try clear c23b2
     try clear hcz14_0
     try clear hcz14_1
     try clear hcz14_2
     try clear hcz14_3
     try clear hcz14_4
     try clear hcz14_5
     try clear hcz14_6
     try clear hcz8_0
     try clear hcz8_1
     try clear hcz8_2
     try clear hcz8_3
     try clear hcz8_4
     try clear hcz8_5
     try clear hcz8_6
     try clear hfz14_0
     try clear hfz14_1
     try clear hfz14_2
     try clear hfz14_3
     try clear hfz14_4
     try clear hfz14_5
     try clear hfz14_6
     try clear hfz8_0
     try clear hfz8_1
     try clear hfz8_2
     try clear hfz8_3
     try clear hfz8_4
     try clear hfz8_5
     try clear hfz8_6
     try clear hx119_0
     try clear hx121_0
     try clear p119
     try clear p121
     try clear q119
     try clear q121
     obtain ⟨kq, x5_5, rfl, HA, HJ5, BK111, HB⟩ := hcut
     cases kq with
     | zero => exact absurd HA.out (by simp [link_Line.j0])
     | succ kj5 =>
      have H := HA.out
      clear HA
      simp only [link_Line.j0] at H
      replace H := Option.bind_eq_some_iff.mp H
      obtain ⟨⟨t122, t123, t124, t125, t126, t127⟩, A270, H⟩ := H
      replace H : ((some (([t123, t124, t125, t126] : List Bool) : List Bool)).bind fun y129 => (link_Line.l0 kj5 x5_5 y129 (y129.length : Int) 0 a0_0 a0_1 a0_2 a0_3 a0_4 a0_5 a0_6)) = some r := H
      have A27 := Aside0.mk A270
      clear A270
      obtain ⟨y129, hy129⟩ : ∃ y_ : List Bool, y_ = (([t123, t124, t125, t126] : List Bool)) := ⟨_, rfl⟩
      replace H : (link_Line.l0 kj5 x5_5 y129 (y129.length : Int) 0 a0_0 a0_1 a0_2 a0_3 a0_4 a0_5 a0_6) = some r := by first | (rw [hy129]; with_reducible exact H) | (have H2_ := (Option.bind_some _ _).symm.trans H; rw [hy129]; with_reducible exact H2_) | (have H2_ := (Option.bind_some _ _).symm.trans H; with_reducible exact H2_) | with_reducible exact H | (rw [hy129]; exact H) | exact H
      have Ny129 := Aside0.mk hy129
      clear hy129
      have H' := Aside0.mk H
      clear H
      have hcz28_0 : wc.cell? ⟨gb111, 0, none⟩ = some (.int .i64 a0_0) := (blk_cell BK111.out 0).trans rfl
      have hcz28_1 : wc.cell? ⟨gb111, 1, none⟩ = some (.int .i64 a0_1) := (blk_cell BK111.out 1).trans rfl
      have hcz28_2 : wc.cell? ⟨gb111, 2, none⟩ = some (.int .i64 a0_2) := (blk_cell BK111.out 2).trans rfl
      have hcz28_3 : wc.cell? ⟨gb111, 3, none⟩ = some (.int .i64 a0_3) := (blk_cell BK111.out 3).trans rfl
      have hcz28_4 : wc.cell? ⟨gb111, 4, none⟩ = some (.int .i64 a0_4) := (blk_cell BK111.out 4).trans rfl
      have hcz28_5 : wc.cell? ⟨gb111, 5, none⟩ = some (.int .i64 a0_5) := (blk_cell BK111.out 5).trans rfl
      have hcz28_6 : wc.cell? ⟨gb111, 6, none⟩ = some (.int .i64 a0_6) := (blk_cell BK111.out 6).trans rfl
      have hfz28_0 := blk_frozen BK111.out 0
      have hfz28_1 := blk_frozen BK111.out 1
      have hfz28_2 := blk_frozen BK111.out 2
      have hfz28_3 := blk_frozen BK111.out 3
      have hfz28_4 := blk_frozen BK111.out 4
      have hfz28_5 := blk_frozen BK111.out 5
      have hfz28_6 := blk_frozen BK111.out 6
      go_wp2_with (first | ((with_reducible refine gate_callee (f := 15) rfl ?_); refine goesL_ (some 38) rfl rfl Tryd.func15 (by kernel_rfl) rfl #[.agg #[.int .i64 a0_0, .int .i64 a0_1, .int .i64 a0_2, .int .i64 a0_3, .int .i64 a0_4, .int .i64 a0_5, .int .i64 a0_6]] rfl (by (try simp only [List.map_toArray, List.map_cons, List.map_nil]); first | done | rfl | (simp only [List.length_drop, List.length_take]; rfl)) ?_; (with_reducible refine (link_shapeOf.calls a0_0 a0_1 a0_2 a0_3 a0_4 a0_5 a0_6 t122 t123 t124 t125 t126 t127 _ A27.out).mono ?_); rintro e w29 ⟨rfl, hb⟩; refine ⟨_, rfl, ?_⟩; have n0_ := Aside0.mk (blk_below (g := gb111) (o := .cells #[.int .i64 a0_0, .int .i64 a0_1, .int .i64 a0_2, .int .i64 a0_3, .int .i64 a0_4, .int .i64 a0_5, .int .i64 a0_6] 29 (0, 0)) (by (with_reducible repeat (first | refine blk_drewN ?_ _ | refine blk_drew ?_ | refine blk_alloc ?_ _)); exact BK111.out) hb); have n1_ := Aside0.mk (below_step (by repeat (first | (with_reducible first | exact HB.out | apply below_alloc | apply pw_below_drewN | apply below_drew1 | refine below_set ?_ GE111.out) | exact HB.out)) hb); clear BK111; clear HB; have BK111 := n0_; have HB := n1_; clear n0_ n1_; (try clear hb); (try clear hb2); (try clear hk); (try clear hi)) | ((with_reducible refine gate_dst (N := 6) rfl ?_); refine box_event ?hg (N := 6) ?hd (cs := #[.bool false, .bool false, .bool false, .bool false, .bool false]) (t := 48) ?hr ?_; (case hd => rfl); (case hg => rfl); (case hr => first | (go_simp; done) | (go_simp; rfl)); intro gb128 hg w30 hbox hb; have n0_ := Aside0.mk (blk_below (g := gb111) (o := .cells #[.int .i64 a0_0, .int .i64 a0_1, .int .i64 a0_2, .int .i64 a0_3, .int .i64 a0_4, .int .i64 a0_5, .int .i64 a0_6] 29 (0, 0)) (by (with_reducible repeat (first | refine blk_drewN ?_ _ | refine blk_drew ?_ | refine blk_alloc ?_ _)); exact BK111.out) hb); have n1_ := Aside0.mk (below_step (by repeat (first | (with_reducible first | exact HB.out | apply below_alloc | apply pw_below_drewN | apply below_drew1 | refine below_set ?_ GE111.out) | exact HB.out)) hb); have n2_ := Aside0.mk (hbox); have n3_ := Aside0.mk ((by rw [hg]; exact (below_size (by repeat (first | (with_reducible first | exact HB.out | apply below_alloc | apply pw_below_drewN | apply below_drew1 | refine below_set ?_ GE111.out) | exact HB.out))) : w.heap.size ≤ gb128)); have n4_ := Aside0.mk ((by rw [hg]; exact (below_size (by repeat (first | (with_reducible first | exact HB.out | apply below_alloc | apply pw_below_drewN | apply below_drew1 | refine below_set ?_ GE111.out) | exact HB.out))) : w.heap.size ≤ gb128)); have n5_ := Aside0.mk ((by rw [hg]; exact Nat.ne_of_lt (blk_lt (g := gb111) (o := .cells #[.int .i64 a0_0, .int .i64 a0_1, .int .i64 a0_2, .int .i64 a0_3, .int .i64 a0_4, .int .i64 a0_5, .int .i64 a0_6] 29 (0, 0)) (by (with_reducible repeat (first | refine blk_drewN ?_ _ | refine blk_drew ?_ | refine blk_alloc ?_ _)); exact BK111.out)) : gb111 ≠ gb128)); have n6_ := Aside0.mk ((by rw [hg]; exact Nat.ne_of_gt (blk_lt (g := gb111) (o := .cells #[.int .i64 a0_0, .int .i64 a0_1, .int .i64 a0_2, .int .i64 a0_3, .int .i64 a0_4, .int .i64 a0_5, .int .i64 a0_6] 29 (0, 0)) (by (with_reducible repeat (first | refine blk_drewN ?_ _ | refine blk_drew ?_ | refine blk_alloc ?_ _)); exact BK111.out)) : gb128 ≠ gb111)); clear BK111; clear HB; have BK111 := n0_; have HB := n1_; have BK128 := n2_; have GW128 := n3_; have GE128 := n4_; have NB111_128 := n5_; have NB128_111 := n6_; clear n0_ n1_ n2_ n3_ n4_ n5_ n6_; clear hb hbox hg; have hnb31 := NB128_111.out; have hnc31 := NB111_128.out; have hcz32_0 : w30.cell? ⟨gb128, 0, none⟩ = some (.bool false) := (blk_cell BK128.out 0).trans rfl; have hcz32_1 : w30.cell? ⟨gb128, 1, none⟩ = some (.bool false) := (blk_cell BK128.out 1).trans rfl; have hcz32_2 : w30.cell? ⟨gb128, 2, none⟩ = some (.bool false) := (blk_cell BK128.out 2).trans rfl; have hcz32_3 : w30.cell? ⟨gb128, 3, none⟩ = some (.bool false) := (blk_cell BK128.out 3).trans rfl; have hcz32_4 : w30.cell? ⟨gb128, 4, none⟩ = some (.bool false) := (blk_cell BK128.out 4).trans rfl; have hfz32_0 := blk_frozen BK128.out 0; have hfz32_1 := blk_frozen BK128.out 1; have hfz32_2 := blk_frozen BK128.out 2; have hfz32_3 := blk_frozen BK128.out 3; have hfz32_4 := blk_frozen BK128.out 4) | ((with_reducible refine gate_dst (N := 49) rfl ?_); refine Kd.R_lit Kd.bool _ 4 ?hg (N := 49) ?hd (xs := ([t123, t124, t125, t126] : List Bool)) (inner := [.bool t123, .bool t124, .bool t125, .bool t126]) (ok := fun _ => True) (okp := fun _ => True) ?hr ?hp (fun _ hk => hk) trivial (Below.refl _ _) (Nat.le_refl _) (by simp) ?_; (case hd => rfl); (case hg => rfl); (case hr => first | (go_simp; done) | (go_simp; rfl)); (case hp => exact (Reps.one (show Kd.M Kd.bool _ _ _ t123 [.bool t123] from rfl) (Reps.one (show Kd.M Kd.bool _ _ _ t124 [.bool t124] from rfl) (Reps.one (show Kd.M Kd.bool _ _ _ t125 [.bool t125] from rfl) (Reps.one (show Kd.M Kd.bool _ _ _ t126 [.bool t126] from rfl) (Reps.none _ _)))))); intro v130 w33 ho34 hb hg_ hnew_; clear hg_ hnew_; (first | rw [← Ny129.out] at ho34 | (simp only [Int.reduceToNat] at ho34; rw [← Ny129.out] at ho34)); have n0_ := Aside0.mk (Kd.R_lower ho34 (below_size (by repeat (first | (with_reducible first | exact HB.out | apply below_alloc | apply pw_below_drewN | apply below_drew1 | refine below_set ?_ GE111.out | refine below_set ?_ GE128.out) | exact HB.out)))); have n1_ := Aside0.mk (blk_below (g := gb111) (o := .cells #[.int .i64 a0_0, .int .i64 a0_1, .int .i64 a0_2, .int .i64 a0_3, .int .i64 a0_4, .int .i64 a0_5, .int .i64 a0_6] 29 (0, 0)) (by (with_reducible repeat (first | refine blk_drewN ?_ _ | refine blk_drew ?_ | refine blk_alloc ?_ _)); refine blk_far ?_ NB111_128.out _; (with_reducible repeat (first | refine blk_drewN ?_ _ | refine blk_drew ?_ | refine blk_alloc ?_ _)); refine blk_far ?_ NB111_128.out _; (with_reducible repeat (first | refine blk_drewN ?_ _ | refine blk_drew ?_ | refine blk_alloc ?_ _)); refine blk_far ?_ NB111_128.out _; (with_reducible repeat (first | refine blk_drewN ?_ _ | refine blk_drew ?_ | refine blk_alloc ?_ _)); refine blk_far ?_ NB111_128.out _; (with_reducible repeat (first | refine blk_drewN ?_ _ | refine blk_drew ?_ | refine blk_alloc ?_ _)); refine blk_far ?_ NB111_128.out _; (with_reducible repeat (first | refine blk_drewN ?_ _ | refine blk_drew ?_ | refine blk_alloc ?_ _)); exact BK111.out) hb); have n2_ := Aside0.mk (blk_below (g := gb128) (o := .cells #[.bool t122, .bool t123, .bool t124, .bool t125, .bool t126] 48 (0, 0)) (by (with_reducible repeat (first | refine blk_drewN ?_ _ | refine blk_drew ?_ | refine blk_alloc ?_ _)); refine blk_put (cs := #[.bool t122, .bool t123, .bool t124, .bool t125, .bool false]) ?_ 4 _ rfl; (with_reducible repeat (first | refine blk_drewN ?_ _ | refine blk_drew ?_ | refine blk_alloc ?_ _)); refine blk_put (cs := #[.bool t122, .bool t123, .bool t124, .bool false, .bool false]) ?_ 3 _ rfl; (with_reducible repeat (first | refine blk_drewN ?_ _ | refine blk_drew ?_ | refine blk_alloc ?_ _)); refine blk_put (cs := #[.bool t122, .bool t123, .bool false, .bool false, .bool false]) ?_ 2 _ rfl; (with_reducible repeat (first | refine blk_drewN ?_ _ | refine blk_drew ?_ | refine blk_alloc ?_ _)); refine blk_put (cs := #[.bool t122, .bool false, .bool false, .bool false, .bool false]) ?_ 1 _ rfl; (with_reducible repeat (first | refine blk_drewN ?_ _ | refine blk_drew ?_ | refine blk_alloc ?_ _)); refine blk_put (cs := #[.bool false, .bool false, .bool false, .bool false, .bool false]) ?_ 0 _ rfl; (with_reducible repeat (first | refine blk_drewN ?_ _ | refine blk_drew ?_ | refine blk_alloc ?_ _)); exact BK128.out) hb); have n3_ := Aside0.mk (below_step (by repeat (first | (with_reducible first | exact HB.out | apply below_alloc | apply pw_below_drewN | apply below_drew1 | refine below_set ?_ GE111.out | refine below_set ?_ GE128.out) | exact HB.out)) hb); clear BK111; clear BK128; clear HB; have HO131 := n0_; have BK111 := n1_; have BK128 := n2_; have HB := n3_; clear n0_ n1_ n2_ n3_; clear hb ho34; obtain ⟨Ao35, co35, eo35⟩ := Kd.R_slice HO131.out; subst eo35))
      go_loopg [5, 51] kj5 (fun kq v5 v51 w' => ∃ (x5_2 : ByteArray) (x51_2 : Int), v5 = .string x5_2 ∧ v51 = .int .i64 x51_2 ∧ Aside0 (link_Line.l0 kq x5_2 y129 (y129.length : Int) x51_2 a0_0 a0_1 a0_2 a0_3 a0_4 a0_5 a0_6 = some r) ∧ Aside0 (kq ≤ kj5) ∧ Aside0 (Kd.R Kd.bool 4 w' w.heap.size (fun _ => True) (.slice Ao35 y129.length co35) y129) ∧ Aside0 (w'.heap[gb111]? = some (.cells #[.int .i64 a0_0, .int .i64 a0_1, .int .i64 a0_2, .int .i64 a0_3, .int .i64 a0_4, .int .i64 a0_5, .int .i64 a0_6] 29 (0, 0))) ∧ Aside0 (w'.heap[gb128]? = some (.cells #[.bool t122, .bool t123, .bool t124, .bool t125, .bool t126] 48 (0, 0))) ∧ Aside0 (Below w.heap.size w w'))
      case atStart => exact ⟨(x5_5), (0), (by first | rfl | (simp; done) | (simp [*]; done)), (by first | rfl | (simp; done) | (simp [*]; done)), H', ⟨Nat.le_refl _⟩, ⟨by (with_reducible repeat (first | apply Kd.R_alloc | apply Kd.R_drewN | apply Kd.R_drew)); exact HO131.out⟩, ⟨by (with_reducible repeat (first | refine blk_drewN ?_ _ | refine blk_drew ?_ | refine blk_alloc ?_ _)); exact BK111.out⟩, ⟨by (with_reducible repeat (first | refine blk_drewN ?_ _ | refine blk_drew ?_ | refine blk_alloc ?_ _)); exact BK128.out⟩, ⟨by repeat (first | (with_reducible first | exact HB.out | apply below_alloc | apply pw_below_drewN | apply below_drew1 | refine below_set ?_ GE111.out | refine below_set ?_ GE128.out) | exact HB.out)⟩⟩
      case round =>
       clear H'
       try clear c1
       try clear p1
       try clear q1
       try clear hx1
       try clear c2
       try clear p2
       try clear c3
       try clear c4
       try clear c4b0
       try clear c5
       try clear c5b0
       try clear c6
       try clear p11
       try clear q11
       try clear hx11
       try clear p12
       try clear q12
       try clear hx12
       try clear c13
       try clear c14
       try clear c15
       try clear c16
       try clear c16b0
       try clear c16b1
       try clear c18
       try clear c18b0
       try clear c18b1
       try clear c18b2
       try clear c19
       try clear c19b0
       try clear c19b1
       try clear c19b2
       try clear c20
       try clear c20b0
       try clear c21
       try clear c21b0
       try clear c22
       try clear c22b0
       try clear c22b1
       try clear c22b2
       try clear c23
       try clear c23b0
       try clear c23b1
       try clear c23b2
       try clear c31
       try clear hcz14_0
       try clear hcz14_1
       try clear hcz14_2
       try clear hcz14_3
       try clear hcz14_4
       try clear hcz14_5
       try clear hcz14_6
       try clear hcz28_0
       try clear hcz28_1
       try clear hcz28_2
       try clear hcz28_3
       try clear hcz28_4
       try clear hcz28_5
       try clear hcz28_6
       try clear hcz32_0
       try clear hcz32_1
       try clear hcz32_2
       try clear hcz32_3
       try clear hcz32_4
       try clear hcz8_0
       try clear hcz8_1
       try clear hcz8_2
       try clear hcz8_3
       try clear hcz8_4
       try clear hcz8_5
       try clear hcz8_6
       try clear hfz14_0
       try clear hfz14_1
       try clear hfz14_2
       try clear hfz14_3
       try clear hfz14_4
       try clear hfz14_5
       try clear hfz14_6
       try clear hfz28_0
       try clear hfz28_1
       try clear hfz28_2
       try clear hfz28_3
       try clear hfz28_4
       try clear hfz28_5
       try clear hfz28_6
       try clear hfz32_0
       try clear hfz32_1
       try clear hfz32_2
       try clear hfz32_3
       try clear hfz32_4
       try clear hfz8_0
       try clear hfz8_1
       try clear hfz8_2
       try clear hfz8_3
       try clear hfz8_4
       try clear hfz8_5
       try clear hfz8_6
       try clear hx119_0
       try clear hx121_0
       try clear p1
       try clear p11
       try clear p119
       try clear p12
       try clear p121
       try clear p2
       try clear q1
       try clear q11
       try clear q119
       try clear q12
       try clear q121
       obtain ⟨x5_2, x51_2, rfl, rfl, HA, HK2, HO_49, BK111, BK128, HB⟩ := hrel
       cases gk with
       | zero => exact absurd HA.out (by simp [link_Line.l0])
       | succ k2 =>
        have H := HA.out
        clear HA
        simp only [link_Line.l0] at H
        by_cases c36 : x51_2 < (y129.length : Int)
        ·rw [if_pos c36] at H
         have c36b0 : decide (x51_2 < (y129.length : Int)) = true := decide_eq_true c36
         clear c36
         by_cases c37 : 0 ≤ x51_2
         ·rw [if_pos c37] at H
          have c37b0 : decide (0 ≤ x51_2) = true := decide_eq_true c37
          clear c37
          by_cases c38 : x51_2 < (y129.length : Int)
          ·rw [if_pos c38] at H
           have c38b0 : decide (x51_2 < (y129.length : Int)) = true := decide_eq_true c38
           clear c38
           obtain ⟨bq39, hbq39⟩ : ∃ b_ : Bool, b_ = (rdOf false y129 x51_2) := ⟨_, rfl⟩
           replace H : (if bq39 = true then ((some (([a0_3, a0_4, a0_5, a0_6] : List Int) : List Int)).bind fun y133 => (if x51_2 < (y133.length : Int) then ((strconv_Itoa_14.f (rd y133 x51_2)).bind fun t137 => (if 1 + t137.size ≤ 9223372036854775807 then (if x5_2.size + ((⟨#[32]⟩ : ByteArray) ++ t137).size ≤ 9223372036854775807 then (link_Line.l0 k2 (x5_2 ++ ((⟨#[32]⟩ : ByteArray) ++ t137)) y129 (y129.length : Int) (wrap64 (x51_2 + 1)) a0_0 a0_1 a0_2 a0_3 a0_4 a0_5 a0_6) else (none)) else (none))) else (none))) else (link_Line.l0 k2 x5_2 y129 (y129.length : Int) (wrap64 (x51_2 + 1)) a0_0 a0_1 a0_2 a0_3 a0_4 a0_5 a0_6)) = some r := by rw [← hbq39] at H; exact H
           have Nbq39 := Aside0.mk hbq39
           clear hbq39
           by_cases c40 : bq39 = true
           ·subst c40
            have H1 : ((some (([a0_3, a0_4, a0_5, a0_6] : List Int) : List Int)).bind fun y133 => (if x51_2 < (y133.length : Int) then ((strconv_Itoa_14.f (rd y133 x51_2)).bind fun t137 => (if 1 + t137.size ≤ 9223372036854775807 then (if x5_2.size + ((⟨#[32]⟩ : ByteArray) ++ t137).size ≤ 9223372036854775807 then (link_Line.l0 k2 (x5_2 ++ ((⟨#[32]⟩ : ByteArray) ++ t137)) y129 (y129.length : Int) (wrap64 (x51_2 + 1)) a0_0 a0_1 a0_2 a0_3 a0_4 a0_5 a0_6) else (none)) else (none))) else (none))) = some r := by rw [if_pos rfl] at H; exact H
            clear H
            have H := H1
            clear H1
            obtain ⟨y133, hy133⟩ : ∃ y_ : List Int, y_ = (([a0_3, a0_4, a0_5, a0_6] : List Int)) := ⟨_, rfl⟩
            replace H : (if x51_2 < (y133.length : Int) then ((strconv_Itoa_14.f (rd y133 x51_2)).bind fun t137 => (if 1 + t137.size ≤ 9223372036854775807 then (if x5_2.size + ((⟨#[32]⟩ : ByteArray) ++ t137).size ≤ 9223372036854775807 then (link_Line.l0 k2 (x5_2 ++ ((⟨#[32]⟩ : ByteArray) ++ t137)) y129 (y129.length : Int) (wrap64 (x51_2 + 1)) a0_0 a0_1 a0_2 a0_3 a0_4 a0_5 a0_6) else (none)) else (none))) else (none)) = some r := by first | (rw [hy133]; with_reducible exact H) | (have H2_ := (Option.bind_some _ _).symm.trans H; rw [hy133]; with_reducible exact H2_) | (have H2_ := (Option.bind_some _ _).symm.trans H; with_reducible exact H2_) | with_reducible exact H | (rw [hy133]; exact H) | exact H
            have Ny133 := Aside0.mk hy133
            clear hy133
            by_cases c41 : x51_2 < (y133.length : Int)
            ·rw [if_pos c41] at H
             have c41b0 : decide (x51_2 < (y133.length : Int)) = true := decide_eq_true c41
             clear c41
             replace H := Option.bind_eq_some_iff.mp H
             obtain ⟨t137, A420, H⟩ := H
             replace H : (if 1 + t137.size ≤ 9223372036854775807 then (if x5_2.size + ((⟨#[32]⟩ : ByteArray) ++ t137).size ≤ 9223372036854775807 then (link_Line.l0 k2 (x5_2 ++ ((⟨#[32]⟩ : ByteArray) ++ t137)) y129 (y129.length : Int) (wrap64 (x51_2 + 1)) a0_0 a0_1 a0_2 a0_3 a0_4 a0_5 a0_6) else (none)) else (none)) = some r := H
             have A42 := Aside0.mk A420
             clear A420
             by_cases c43 : 1 + t137.size ≤ 9223372036854775807
             ·rw [if_pos c43] at H
              have c43b0 := eq_true c43
              have c43b1 : decide (1 + t137.size ≤ 9223372036854775807) = true := decide_eq_true c43
              try have c43b2 : (9223372036854775807 < 1 + t137.size) = False := eq_false (Nat.not_lt.2 c43)
              by_cases c44 : x5_2.size + ((⟨#[32]⟩ : ByteArray) ++ t137).size ≤ 9223372036854775807
              ·rw [if_pos c44] at H
               have c44b0 := eq_true c44
               have c44b1 : decide (x5_2.size + ((⟨#[32]⟩ : ByteArray) ++ t137).size ≤ 9223372036854775807) = true := decide_eq_true c44
               try have c44b2 : (9223372036854775807 < x5_2.size + ((⟨#[32]⟩ : ByteArray) ++ t137).size) = False := eq_false (Nat.not_lt.2 c44)
               try have c44b3 : (9223372036854775807 < x5_2.size + (1 + t137.size)) = False := eq_false (Nat.not_lt.2 (by have q := c44; simp only [ByteArray.size_append] at q; exact q))
               have H' := Aside0.mk H
               clear H
               have p132 : 0 ≤ (x51_2 : Int) := of_decide_eq_true (by first | (with_reducible assumption) | assumption)
               have q132 : x51_2 < (y129.length : Int) := of_decide_eq_true (by first | (with_reducible assumption) | assumption)
               obtain ⟨ad132, e132, hx132_0⟩ := Kd.at_bool (Kd.R_reads' HO_49.out).2.2 x51_2 p132 q132
               (try rw [← Nbq39.out] at hx132_0)
               cases e132
               replace p132 := eq_true p132
               replace q132 := eq_true q132
               have hnb45 := NB111_128.out
               have hnc45 := NB128_111.out
               have hcz46_0 : wr.cell? ⟨gb111, 0, none⟩ = some (.int .i64 a0_0) := (blk_cell BK111.out 0).trans rfl
               have hcz46_1 : wr.cell? ⟨gb111, 1, none⟩ = some (.int .i64 a0_1) := (blk_cell BK111.out 1).trans rfl
               have hcz46_2 : wr.cell? ⟨gb111, 2, none⟩ = some (.int .i64 a0_2) := (blk_cell BK111.out 2).trans rfl
               have hcz46_3 : wr.cell? ⟨gb111, 3, none⟩ = some (.int .i64 a0_3) := (blk_cell BK111.out 3).trans rfl
               have hcz46_4 : wr.cell? ⟨gb111, 4, none⟩ = some (.int .i64 a0_4) := (blk_cell BK111.out 4).trans rfl
               have hcz46_5 : wr.cell? ⟨gb111, 5, none⟩ = some (.int .i64 a0_5) := (blk_cell BK111.out 5).trans rfl
               have hcz46_6 : wr.cell? ⟨gb111, 6, none⟩ = some (.int .i64 a0_6) := (blk_cell BK111.out 6).trans rfl
               have hfz46_0 := blk_frozen BK111.out 0
               have hfz46_1 := blk_frozen BK111.out 1
               have hfz46_2 := blk_frozen BK111.out 2
               have hfz46_3 := blk_frozen BK111.out 3
               have hfz46_4 := blk_frozen BK111.out 4
               have hfz46_5 := blk_frozen BK111.out 5
               have hfz46_6 := blk_frozen BK111.out 6
               go_wp2_with (first | ((with_reducible refine gate_dst (N := 66) rfl ?_); refine Kd.R_lit (Kd.int .i64) _ 3 ?hg (N := 66) ?hd (xs := ([a0_3, a0_4, a0_5, a0_6] : List Int)) (inner := [.int .i64 a0_3, .int .i64 a0_4, .int .i64 a0_5, .int .i64 a0_6]) (ok := fun _ => True) (okp := fun _ => True) ?hr ?hp (fun _ hk => hk) trivial (Below.refl _ _) (Nat.le_refl _) (by simp) ?_; (case hd => rfl); (case hg => rfl); (case hr => first | (go_simp; done) | (go_simp; rfl)); (case hp => exact (Reps.one (show Kd.M (Kd.int .i64) _ _ _ a0_3 [.int .i64 a0_3] from rfl) (Reps.one (show Kd.M (Kd.int .i64) _ _ _ a0_4 [.int .i64 a0_4] from rfl) (Reps.one (show Kd.M (Kd.int .i64) _ _ _ a0_5 [.int .i64 a0_5] from rfl) (Reps.one (show Kd.M (Kd.int .i64) _ _ _ a0_6 [.int .i64 a0_6] from rfl) (Reps.none _ _)))))); intro v134 w47 ho48 hb hg_ hnew_; clear hg_ hnew_; (first | rw [← Ny133.out] at ho48 | (simp only [Int.reduceToNat] at ho48; rw [← Ny133.out] at ho48)); have n0_ := Aside0.mk (Kd.R_below (by (with_reducible repeat (first | apply Kd.R_alloc | apply Kd.R_drewN | apply Kd.R_drew)); exact HO_49.out) hb); have n1_ := Aside0.mk (Kd.R_lower ho48 (below_size (by repeat (first | (with_reducible first | exact HB.out | apply below_alloc | apply pw_below_drewN | apply below_drew1 | refine below_set ?_ GE111.out | refine below_set ?_ GE128.out) | exact HB.out)))); have n2_ := Aside0.mk (blk_below (g := gb111) (o := .cells #[.int .i64 a0_0, .int .i64 a0_1, .int .i64 a0_2, .int .i64 a0_3, .int .i64 a0_4, .int .i64 a0_5, .int .i64 a0_6] 29 (0, 0)) (by (with_reducible repeat (first | refine blk_drewN ?_ _ | refine blk_drew ?_ | refine blk_alloc ?_ _)); exact BK111.out) hb); have n3_ := Aside0.mk (blk_below (g := gb128) (o := .cells #[.bool t122, .bool t123, .bool t124, .bool t125, .bool t126] 48 (0, 0)) (by (with_reducible repeat (first | refine blk_drewN ?_ _ | refine blk_drew ?_ | refine blk_alloc ?_ _)); exact BK128.out) hb); have n4_ := Aside0.mk (below_step (by repeat (first | (with_reducible first | exact HB.out | apply below_alloc | apply pw_below_drewN | apply below_drew1 | refine below_set ?_ GE111.out | refine below_set ?_ GE128.out) | exact HB.out)) hb); clear HO_49; clear BK111; clear BK128; clear HB; have HO_49 := n0_; have HO135 := n1_; have BK111 := n2_; have BK128 := n3_; have HB := n4_; clear n0_ n1_ n2_ n3_ n4_; clear hb ho48; obtain ⟨Ao49, co49, eo49⟩ := Kd.R_slice HO135.out; subst eo49; have p136 : 0 ≤ (x51_2 : Int) := of_decide_eq_true (by first | (with_reducible assumption) | assumption); have q136 : x51_2 < (y133.length : Int) := of_decide_eq_true (by first | (with_reducible assumption) | assumption); obtain ⟨ad136, e136, hx136_0⟩ := Kd.at_int (Kd.R_reads' HO135.out).2.2 x51_2 p136 q136; cases e136; replace p136 := eq_true p136; replace q136 := eq_true q136) | ((with_reducible refine gate_callee (f := 14) rfl ?_); refine goesL_ (some 70) rfl rfl Tryd.func14 (by kernel_rfl) rfl #[.int .i64 (rd y133 x51_2)] rfl (by (try simp only [List.map_toArray, List.map_cons, List.map_nil]); first | done | rfl | (simp only [List.length_drop, List.length_take]; rfl)) ?_; (with_reducible refine (strconv_Itoa_14.calls (rd y133 x51_2) t137 _ (Go.Proofs.YthljanmfanppdaaDoor.Lw.Tab.below HTAB_.out (by repeat (first | (with_reducible first | exact HB.out | apply below_alloc | apply pw_below_drewN | apply below_drew1) | exact HB.out))) A42.out).mono ?_); rintro e w50 ⟨rfl, hb⟩; refine ⟨_, rfl, ?_⟩; have n0_ := Aside0.mk (Kd.R_below (by (with_reducible repeat (first | apply Kd.R_alloc | apply Kd.R_drewN | apply Kd.R_drew)); exact HO_49.out) hb); have n1_ := Aside0.mk (Kd.R_below (by (with_reducible repeat (first | apply Kd.R_alloc | apply Kd.R_drewN | apply Kd.R_drew)); exact HO135.out) hb); have n2_ := Aside0.mk (blk_below (g := gb111) (o := .cells #[.int .i64 a0_0, .int .i64 a0_1, .int .i64 a0_2, .int .i64 a0_3, .int .i64 a0_4, .int .i64 a0_5, .int .i64 a0_6] 29 (0, 0)) (by (with_reducible repeat (first | refine blk_drewN ?_ _ | refine blk_drew ?_ | refine blk_alloc ?_ _)); exact BK111.out) hb); have n3_ := Aside0.mk (blk_below (g := gb128) (o := .cells #[.bool t122, .bool t123, .bool t124, .bool t125, .bool t126] 48 (0, 0)) (by (with_reducible repeat (first | refine blk_drewN ?_ _ | refine blk_drew ?_ | refine blk_alloc ?_ _)); exact BK128.out) hb); have n4_ := Aside0.mk (below_step (by repeat (first | (with_reducible first | exact HB.out | apply below_alloc | apply pw_below_drewN | apply below_drew1 | refine below_set ?_ GE111.out | refine below_set ?_ GE128.out) | exact HB.out)) hb); clear HO_49; clear HO135; clear BK111; clear BK128; clear HB; have HO_49 := n0_; have HO135 := n1_; have BK111 := n2_; have BK128 := n3_; have HB := n4_; clear n0_ n1_ n2_ n3_ n4_; (try clear hb); (try clear hb2); (try clear hk); (try clear hi)))
               go_roundg k2
               case measure => have := HJ5.out; have := HK2.out; omega
               case rel => exact ⟨(x5_2 ++ ((⟨#[32]⟩ : ByteArray) ++ t137)), (wrap64 (x51_2 + 1)), (by first | rfl | (simp; done) | (simp [*]; done)), (by first | rfl | (simp; done) | (simp [*]; done)), H', ⟨by have := HJ5.out; have := HK2.out; omega⟩, ⟨by (with_reducible repeat (first | apply Kd.R_alloc | apply Kd.R_drewN | apply Kd.R_drew)); exact HO_49.out⟩, ⟨by (with_reducible repeat (first | refine blk_drewN ?_ _ | refine blk_drew ?_ | refine blk_alloc ?_ _)); exact BK111.out⟩, ⟨by (with_reducible repeat (first | refine blk_drewN ?_ _ | refine blk_drew ?_ | refine blk_alloc ?_ _)); exact BK128.out⟩, ⟨by repeat (first | (with_reducible first | exact HB.out | apply below_alloc | apply pw_below_drewN | apply below_drew1 | refine below_set ?_ GE111.out | refine below_set ?_ GE128.out) | exact HB.out)⟩⟩
              ·rw [if_neg c44] at H
               exact absurd H (by simp)
             ·rw [if_neg c43] at H
              exact absurd H (by simp)
            ·rw [if_neg c41] at H
             exact absurd H (by simp)
           ·replace c40 := Bool.eq_false_iff.mpr c40
            subst c40
            have H1 : (link_Line.l0 k2 x5_2 y129 (y129.length : Int) (wrap64 (x51_2 + 1)) a0_0 a0_1 a0_2 a0_3 a0_4 a0_5 a0_6) = some r := by rw [if_neg (show ¬ (false = true) by decide)] at H; exact H
            clear H
            have H := H1
            clear H1
            have H' := Aside0.mk H
            clear H
            have p132 : 0 ≤ (x51_2 : Int) := of_decide_eq_true (by first | (with_reducible assumption) | assumption)
            have q132 : x51_2 < (y129.length : Int) := of_decide_eq_true (by first | (with_reducible assumption) | assumption)
            obtain ⟨ad132, e132, hx132_0⟩ := Kd.at_bool (Kd.R_reads' HO_49.out).2.2 x51_2 p132 q132
            (try rw [← Nbq39.out] at hx132_0)
            cases e132
            replace p132 := eq_true p132
            replace q132 := eq_true q132
            go_wp2
            go_roundg k2
            case measure => have := HJ5.out; have := HK2.out; omega
            case rel => exact ⟨(x5_2), (wrap64 (x51_2 + 1)), (by first | rfl | (simp; done) | (simp [*]; done)), (by first | rfl | (simp; done) | (simp [*]; done)), H', ⟨by have := HJ5.out; have := HK2.out; omega⟩, ⟨by (with_reducible repeat (first | apply Kd.R_alloc | apply Kd.R_drewN | apply Kd.R_drew)); exact HO_49.out⟩, ⟨by (with_reducible repeat (first | refine blk_drewN ?_ _ | refine blk_drew ?_ | refine blk_alloc ?_ _)); exact BK111.out⟩, ⟨by (with_reducible repeat (first | refine blk_drewN ?_ _ | refine blk_drew ?_ | refine blk_alloc ?_ _)); exact BK128.out⟩, ⟨by repeat (first | (with_reducible first | exact HB.out | apply below_alloc | apply pw_below_drewN | apply below_drew1 | refine below_set ?_ GE111.out | refine below_set ?_ GE128.out) | exact HB.out)⟩⟩
          ·rw [if_neg c38] at H
           exact absurd H (by simp)
         ·rw [if_neg c37] at H
          exact absurd H (by simp)
        ·rw [if_neg c36] at H
         have c36b0 : decide (x51_2 < (y129.length : Int)) = false := decide_eq_false c36
         clear c36
         obtain rfl := Option.some.inj H
         go_wp2
         go_ret
         exact ⟨by first | rfl | (simp [errW_none, errW_some] <;> rfl) | (simp [*, errW_none, errW_some] <;> rfl), by repeat (first | (with_reducible first | exact HB.out | apply below_alloc | apply pw_below_drewN | apply below_drew1 | refine below_set ?_ GE111.out | refine below_set ?_ GE128.out) | exact HB.out)⟩
   ·rw [if_neg c5] at H
    exact absurd H (by simp)
  ·rw [if_neg c4] at H
   exact absurd H (by simp)
 ·replace c3 := Bool.eq_false_iff.mpr c3
  subst c3
  have H1 : (some (⟨#[]⟩ : ByteArray)) = some r := by rw [if_neg (show ¬ (false = true) by decide)] at H; exact H
  clear H
  have H := H1
  clear H1
  obtain rfl := Option.some.inj H
  go_enter Tryd.func6, Tryd.ntmps6
  go_wp2_with (first | ((with_reducible refine gate_dst (N := 1) rfl ?_); refine box_event ?hg (N := 1) ?hd (cs := #[.int .i64 a0_0, .int .i64 a0_1, .int .i64 a0_2, .int .i64 a0_3, .int .i64 a0_4, .int .i64 a0_5, .int .i64 a0_6]) (t := 29) ?hr ?_; (case hd => rfl); (case hg => rfl); (case hr => first | (go_simp; done) | (go_simp; rfl)); intro gb111 hg w51 hbox hb; have n0_ := Aside0.mk (below_step (by repeat (first | (with_reducible first | exact HB.out | apply below_alloc | apply pw_below_drewN | apply below_drew1) | exact HB.out)) hb); have n1_ := Aside0.mk (hbox); have n2_ := Aside0.mk ((by rw [hg]; exact (below_size (by repeat (first | (with_reducible first | exact HB.out | apply below_alloc | apply pw_below_drewN | apply below_drew1) | exact HB.out))) : w.heap.size ≤ gb111)); have n3_ := Aside0.mk ((by rw [hg]; exact (below_size (by repeat (first | (with_reducible first | exact HB.out | apply below_alloc | apply pw_below_drewN | apply below_drew1) | exact HB.out))) : w.heap.size ≤ gb111)); clear HB; have HB := n0_; have BK111 := n1_; have GW111 := n2_; have GE111 := n3_; clear n0_ n1_ n2_ n3_; clear hb hbox hg; have hcz52_0 : w51.cell? ⟨gb111, 0, none⟩ = some (.int .i64 a0_0) := (blk_cell BK111.out 0).trans rfl; have hcz52_1 : w51.cell? ⟨gb111, 1, none⟩ = some (.int .i64 a0_1) := (blk_cell BK111.out 1).trans rfl; have hcz52_2 : w51.cell? ⟨gb111, 2, none⟩ = some (.int .i64 a0_2) := (blk_cell BK111.out 2).trans rfl; have hcz52_3 : w51.cell? ⟨gb111, 3, none⟩ = some (.int .i64 a0_3) := (blk_cell BK111.out 3).trans rfl; have hcz52_4 : w51.cell? ⟨gb111, 4, none⟩ = some (.int .i64 a0_4) := (blk_cell BK111.out 4).trans rfl; have hcz52_5 : w51.cell? ⟨gb111, 5, none⟩ = some (.int .i64 a0_5) := (blk_cell BK111.out 5).trans rfl; have hcz52_6 : w51.cell? ⟨gb111, 6, none⟩ = some (.int .i64 a0_6) := (blk_cell BK111.out 6).trans rfl; have hfz52_0 := blk_frozen BK111.out 0; have hfz52_1 := blk_frozen BK111.out 1; have hfz52_2 := blk_frozen BK111.out 2; have hfz52_3 := blk_frozen BK111.out 3; have hfz52_4 := blk_frozen BK111.out 4; have hfz52_5 := blk_frozen BK111.out 5; have hfz52_6 := blk_frozen BK111.out 6) | ((with_reducible refine gate_callee (f := 13) rfl ?_); refine goesL_ (some 11) rfl rfl Tryd.func13 (by kernel_rfl) rfl #[.agg #[.int .i64 a0_0, .int .i64 a0_1, .int .i64 a0_2, .int .i64 a0_3, .int .i64 a0_4, .int .i64 a0_5, .int .i64 a0_6]] rfl (by (try simp only [List.map_toArray, List.map_cons, List.map_nil]); first | done | rfl | (simp only [List.length_drop, List.length_take]; rfl)) ?_; (with_reducible refine (link_Right.calls a0_0 a0_1 a0_2 a0_3 a0_4 a0_5 a0_6 false _ A2.out).mono ?_); rintro e w53 ⟨rfl, hb⟩; refine ⟨_, rfl, ?_⟩; have n0_ := Aside0.mk (blk_below (g := gb111) (o := .cells #[.int .i64 a0_0, .int .i64 a0_1, .int .i64 a0_2, .int .i64 a0_3, .int .i64 a0_4, .int .i64 a0_5, .int .i64 a0_6] 29 (0, 0)) (by (with_reducible repeat (first | refine blk_drewN ?_ _ | refine blk_drew ?_ | refine blk_alloc ?_ _)); exact BK111.out) hb); have n1_ := Aside0.mk (below_step (by repeat (first | (with_reducible first | exact HB.out | apply below_alloc | apply pw_below_drewN | apply below_drew1 | refine below_set ?_ GE111.out) | exact HB.out)) hb); clear BK111; clear HB; have BK111 := n0_; have HB := n1_; clear n0_ n1_; (try clear hb); (try clear hb2); (try clear hk); (try clear hi)))
  go_ret
  exact ⟨by first | rfl | (simp [errW_none, errW_some] <;> rfl) | (simp [*, errW_none, errW_some] <;> rfl), by repeat (first | (with_reducible first | exact HB.out | apply below_alloc | apply pw_below_drewN | apply below_drew1 | refine below_set ?_ GE111.out) | exact HB.out)⟩
def knelllaw24_Of.f (a0_0 : Int) (a0_1 : Int) (a0_2 : Int) (a0_3 : Int) (a0_4 : Int) (a0_5 : Int) (a0_6 : Int) : Option (Int × Int × Int × Int × Int × Int × Int) := some (a0_0, a0_1, a0_2, a0_3, a0_4, a0_5, a0_6)
set_option maxHeartbeats 8000000 in
set_option maxRecDepth 100000 in
theorem knelllaw24_Of.calls (a0_0 : Int) (a0_1 : Int) (a0_2 : Int) (a0_3 : Int) (a0_4 : Int) (a0_5 : Int) (a0_6 : Int) (r1 : Int) (r2 : Int) (r3 : Int) (r4 : Int) (r5 : Int) (r6 : Int) (r7 : Int) (w : World) (h : knelllaw24_Of.f a0_0 a0_1 a0_2 a0_3 a0_4 a0_5 a0_6 = some (r1, r2, r3, r4, r5, r6, r7)) :
  Calls Tryd.prog 7 #[.agg #[.int .i64 a0_0, .int .i64 a0_1, .int .i64 a0_2, .int .i64 a0_3, .int .i64 a0_4, .int .i64 a0_5, .int .i64 a0_6]] w fun e w' => e = .returned (.agg #[.int .i64 r1, .int .i64 r2, .int .i64 r3, .int .i64 r4, .int .i64 r5, .int .i64 r6, .int .i64 r7]) ∧ Below w.heap.size w w' := by
 have hu23 := Tryd.underlying23
 have hu29 := Tryd.underlying29
 have HB := Aside0.mk (Below.refl w.heap.size w)
 have H : (some (a0_0, a0_1, a0_2, a0_3, a0_4, a0_5, a0_6)) = some (r1, r2, r3, r4, r5, r6, r7) := h
 clear h
 simp only [Option.some.injEq, Prod.mk.injEq] at H
 obtain ⟨rfl, rfl, rfl, rfl, rfl, rfl, rfl⟩ := H
 go_enter Tryd.func7, Tryd.ntmps7
 go_wp2_with (first | ((with_reducible refine gate_dst (N := 1) rfl ?_); refine box_event ?hg (N := 1) ?hd (cs := #[.int .i64 a0_0, .int .i64 a0_1, .int .i64 a0_2, .int .i64 a0_3, .int .i64 a0_4, .int .i64 a0_5, .int .i64 a0_6]) (t := 23) ?hr ?_; (case hd => rfl); (case hg => rfl); (case hr => first | (go_simp; done) | (go_simp; rfl)); intro gb138 hg w2 hbox hb; have n0_ := Aside0.mk (below_step (by repeat (first | (with_reducible first | exact HB.out | apply below_alloc | apply pw_below_drewN | apply below_drew1) | exact HB.out)) hb); have n1_ := Aside0.mk (hbox); have n2_ := Aside0.mk ((by rw [hg]; exact (below_size (by repeat (first | (with_reducible first | exact HB.out | apply below_alloc | apply pw_below_drewN | apply below_drew1) | exact HB.out))) : w.heap.size ≤ gb138)); have n3_ := Aside0.mk ((by rw [hg]; exact (below_size (by repeat (first | (with_reducible first | exact HB.out | apply below_alloc | apply pw_below_drewN | apply below_drew1) | exact HB.out))) : w.heap.size ≤ gb138)); clear HB; have HB := n0_; have BK138 := n1_; have GW138 := n2_; have GE138 := n3_; clear n0_ n1_ n2_ n3_; clear hb hbox hg) | ((with_reducible refine gate_dst (N := 2) rfl ?_); refine box_event ?hg (N := 2) ?hd (cs := #[.int .i64 0, .int .i64 0, .int .i64 0, .int .i64 0, .int .i64 0, .int .i64 0, .int .i64 0]) (t := 29) ?hr ?_; (case hd => rfl); (case hg => rfl); (case hr => first | (go_simp; done) | (go_simp; rfl)); intro gb139 hg w3 hbox hb; have n0_ := Aside0.mk (blk_below (g := gb138) (o := .cells #[.int .i64 a0_0, .int .i64 a0_1, .int .i64 a0_2, .int .i64 a0_3, .int .i64 a0_4, .int .i64 a0_5, .int .i64 a0_6] 23 (0, 0)) (by (with_reducible repeat (first | refine blk_drewN ?_ _ | refine blk_drew ?_ | refine blk_alloc ?_ _)); exact BK138.out) hb); have n1_ := Aside0.mk (below_step (by repeat (first | (with_reducible first | exact HB.out | apply below_alloc | apply pw_below_drewN | apply below_drew1 | refine below_set ?_ GE138.out) | exact HB.out)) hb); have n2_ := Aside0.mk (hbox); have n3_ := Aside0.mk ((by rw [hg]; exact (below_size (by repeat (first | (with_reducible first | exact HB.out | apply below_alloc | apply pw_below_drewN | apply below_drew1 | refine below_set ?_ GE138.out) | exact HB.out))) : w.heap.size ≤ gb139)); have n4_ := Aside0.mk ((by rw [hg]; exact (below_size (by repeat (first | (with_reducible first | exact HB.out | apply below_alloc | apply pw_below_drewN | apply below_drew1 | refine below_set ?_ GE138.out) | exact HB.out))) : w.heap.size ≤ gb139)); have n5_ := Aside0.mk ((by rw [hg]; exact Nat.ne_of_lt (blk_lt (g := gb138) (o := .cells #[.int .i64 a0_0, .int .i64 a0_1, .int .i64 a0_2, .int .i64 a0_3, .int .i64 a0_4, .int .i64 a0_5, .int .i64 a0_6] 23 (0, 0)) (by (with_reducible repeat (first | refine blk_drewN ?_ _ | refine blk_drew ?_ | refine blk_alloc ?_ _)); exact BK138.out)) : gb138 ≠ gb139)); have n6_ := Aside0.mk ((by rw [hg]; exact Nat.ne_of_gt (blk_lt (g := gb138) (o := .cells #[.int .i64 a0_0, .int .i64 a0_1, .int .i64 a0_2, .int .i64 a0_3, .int .i64 a0_4, .int .i64 a0_5, .int .i64 a0_6] 23 (0, 0)) (by (with_reducible repeat (first | refine blk_drewN ?_ _ | refine blk_drew ?_ | refine blk_alloc ?_ _)); exact BK138.out)) : gb139 ≠ gb138)); clear BK138; clear HB; have BK138 := n0_; have HB := n1_; have BK139 := n2_; have GW139 := n3_; have GE139 := n4_; have NB138_139 := n5_; have NB139_138 := n6_; clear n0_ n1_ n2_ n3_ n4_ n5_ n6_; clear hb hbox hg; have hnb4 := NB138_139.out; have hnc4 := NB139_138.out; have hcz5_0 : w3.cell? ⟨gb138, 0, none⟩ = some (.int .i64 a0_0) := (blk_cell BK138.out 0).trans rfl; have hcz5_1 : w3.cell? ⟨gb138, 1, none⟩ = some (.int .i64 a0_1) := (blk_cell BK138.out 1).trans rfl; have hcz5_2 : w3.cell? ⟨gb138, 2, none⟩ = some (.int .i64 a0_2) := (blk_cell BK138.out 2).trans rfl; have hcz5_3 : w3.cell? ⟨gb138, 3, none⟩ = some (.int .i64 a0_3) := (blk_cell BK138.out 3).trans rfl; have hcz5_4 : w3.cell? ⟨gb138, 4, none⟩ = some (.int .i64 a0_4) := (blk_cell BK138.out 4).trans rfl; have hcz5_5 : w3.cell? ⟨gb138, 5, none⟩ = some (.int .i64 a0_5) := (blk_cell BK138.out 5).trans rfl; have hcz5_6 : w3.cell? ⟨gb138, 6, none⟩ = some (.int .i64 a0_6) := (blk_cell BK138.out 6).trans rfl; have hfz5_0 := blk_frozen BK138.out 0; have hfz5_1 := blk_frozen BK138.out 1; have hfz5_2 := blk_frozen BK138.out 2; have hfz5_3 := blk_frozen BK138.out 3; have hfz5_4 := blk_frozen BK138.out 4; have hfz5_5 := blk_frozen BK138.out 5; have hfz5_6 := blk_frozen BK138.out 6; have hcz6_0 : w3.cell? ⟨gb139, 0, none⟩ = some (.int .i64 0) := (blk_cell BK139.out 0).trans rfl; have hcz6_1 : w3.cell? ⟨gb139, 1, none⟩ = some (.int .i64 0) := (blk_cell BK139.out 1).trans rfl; have hcz6_2 : w3.cell? ⟨gb139, 2, none⟩ = some (.int .i64 0) := (blk_cell BK139.out 2).trans rfl; have hcz6_3 : w3.cell? ⟨gb139, 3, none⟩ = some (.int .i64 0) := (blk_cell BK139.out 3).trans rfl; have hcz6_4 : w3.cell? ⟨gb139, 4, none⟩ = some (.int .i64 0) := (blk_cell BK139.out 4).trans rfl; have hcz6_5 : w3.cell? ⟨gb139, 5, none⟩ = some (.int .i64 0) := (blk_cell BK139.out 5).trans rfl; have hcz6_6 : w3.cell? ⟨gb139, 6, none⟩ = some (.int .i64 0) := (blk_cell BK139.out 6).trans rfl; have hfz6_0 := blk_frozen BK139.out 0; have hfz6_1 := blk_frozen BK139.out 1; have hfz6_2 := blk_frozen BK139.out 2; have hfz6_3 := blk_frozen BK139.out 3; have hfz6_4 := blk_frozen BK139.out 4; have hfz6_5 := blk_frozen BK139.out 5; have hfz6_6 := blk_frozen BK139.out 6))
 refine bodyPost_ret (results_cell_row rfl _ _ gb139 29 #[.int .i64 a0_0, .int .i64 a0_1, .int .i64 a0_2, .int .i64 a0_3, .int .i64 a0_4, .int .i64 a0_5, .int .i64 a0_6] (0, 0) _ rfl (by (with_reducible repeat (first | refine blk_drewN ?_ _ | refine blk_drew ?_ | refine blk_alloc ?_ _)); refine blk_put (cs := #[.int .i64 a0_0, .int .i64 a0_1, .int .i64 a0_2, .int .i64 a0_3, .int .i64 a0_4, .int .i64 a0_5, .int .i64 0]) ?_ 6 _ rfl; (with_reducible repeat (first | refine blk_drewN ?_ _ | refine blk_drew ?_ | refine blk_alloc ?_ _)); refine blk_put (cs := #[.int .i64 a0_0, .int .i64 a0_1, .int .i64 a0_2, .int .i64 a0_3, .int .i64 a0_4, .int .i64 0, .int .i64 0]) ?_ 5 _ rfl; (with_reducible repeat (first | refine blk_drewN ?_ _ | refine blk_drew ?_ | refine blk_alloc ?_ _)); refine blk_put (cs := #[.int .i64 a0_0, .int .i64 a0_1, .int .i64 a0_2, .int .i64 a0_3, .int .i64 0, .int .i64 0, .int .i64 0]) ?_ 4 _ rfl; (with_reducible repeat (first | refine blk_drewN ?_ _ | refine blk_drew ?_ | refine blk_alloc ?_ _)); refine blk_put (cs := #[.int .i64 a0_0, .int .i64 a0_1, .int .i64 a0_2, .int .i64 0, .int .i64 0, .int .i64 0, .int .i64 0]) ?_ 3 _ rfl; (with_reducible repeat (first | refine blk_drewN ?_ _ | refine blk_drew ?_ | refine blk_alloc ?_ _)); refine blk_put (cs := #[.int .i64 a0_0, .int .i64 a0_1, .int .i64 0, .int .i64 0, .int .i64 0, .int .i64 0, .int .i64 0]) ?_ 2 _ rfl; (with_reducible repeat (first | refine blk_drewN ?_ _ | refine blk_drew ?_ | refine blk_alloc ?_ _)); refine blk_put (cs := #[.int .i64 a0_0, .int .i64 0, .int .i64 0, .int .i64 0, .int .i64 0, .int .i64 0, .int .i64 0]) ?_ 1 _ rfl; (with_reducible repeat (first | refine blk_drewN ?_ _ | refine blk_drew ?_ | refine blk_alloc ?_ _)); refine blk_put (cs := #[.int .i64 0, .int .i64 0, .int .i64 0, .int .i64 0, .int .i64 0, .int .i64 0, .int .i64 0]) ?_ 0 _ rfl; (with_reducible repeat (first | refine blk_drewN ?_ _ | refine blk_drew ?_ | refine blk_alloc ?_ _)); exact BK139.out) Tryd.underlying29 rfl (by kernel_rfl)) rfl ?_
 exact ⟨by first | rfl | (simp [errW_none, errW_some] <;> rfl) | (simp [*, errW_none, errW_some] <;> rfl), by repeat (first | (with_reducible first | exact HB.out | apply below_alloc | apply pw_below_drewN | apply below_drew1 | refine below_set ?_ GE138.out | refine below_set ?_ GE139.out) | exact HB.out)⟩
end Go.Proofs.YthljanmfanppdaaDoor.KLw
end
section
namespace Go.Proofs.YthljanmfanppdaaDoor.KLw
open Go.RowKit Go.Proofs.YthljanmfanppdaaDoorW.PrintWords Go.Proofs.YthljanmfanppdaaDoorW.PrintLast Go.Proofs.YthljanmfanppdaaDoorW.PrintMore
attribute [local go_sem] max2_int min2_int max_two min_two max_three min_three max_four min_four   -- for this text's walks alone
set_option linter.unusedVariables false
set_option linter.unusedSimpArgs false
attribute [local go_sem high] eqA23
mutual
def knelllaw24_LinkWords.j0 : Nat → Bool → Int → Int → Int → Int → Int → Int → Int → Int → Int → Int → Int → Int → Int → Int → Option (Bool)
 | 0, _, _, _, _, _, _, _, _, _, _, _, _, _, _, _ => none
 | k + 1, x18, x141000, x141001, x141002, x141003, x141004, x141005, x141006, x142000, x142001, x142002, x142003, x142004, x142005, x142006 => if x18 = true then ((knelllaw24_speaks.f).bind fun t145 => (some t145)) else ((knelllaw24_Of.f x141000 x141001 x141002 x141003 x141004 x141005 x141006).bind fun bt146 => ((link_Line.f k bt146.1 bt146.2.1 bt146.2.2.1 bt146.2.2.2.1 bt146.2.2.2.2.1 bt146.2.2.2.2.2.1 bt146.2.2.2.2.2.2).bind fun t153 => (knelllaw24_LinkWords.l0 k t153 (t153.size : Int) 0 x141000 x141001 x141002 x141003 x141004 x141005 x141006 x142000 x142001 x142002 x142003 x142004 x142005 x142006)))
def knelllaw24_LinkWords.l0 : Nat → ByteArray → Int → Int → Int → Int → Int → Int → Int → Int → Int → Int → Int → Int → Int → Int → Int → Int → Option (Bool)
 | 0, _, _, _, _, _, _, _, _, _, _, _, _, _, _, _, _, _ => none
 | k + 1, x5, x24, x25, x141000, x141001, x141002, x141003, x141004, x141005, x141006, x142000, x142001, x142002, x142003, x142004, x142005, x142006 => if x25 < x24 then (if 0 ≤ x25 then (if x25 < (x5.size : Int) then (if (bt x5 x25) = 10 then (some false) else (if (bt x5 x25) = 32 then (if x25 = 0 then (some false) else (if x25 = (wrap64 ((x5.size : Int) - 1)) then (some false) else (if 0 ≤ (wrap64 (x25 + 1)) then (if (wrap64 (x25 + 1)) < (x5.size : Int) then (if (bt x5 (wrap64 (x25 + 1))) = 32 then (some false) else (knelllaw24_LinkWords.l0 k x5 x24 (wrap64 (x25 + 1)) x141000 x141001 x141002 x141003 x141004 x141005 x141006 x142000 x142001 x142002 x142003 x142004 x142005 x142006)) else (none)) else (none)))) else (knelllaw24_LinkWords.l0 k x5 x24 (wrap64 (x25 + 1)) x141000 x141001 x141002 x141003 x141004 x141005 x141006 x142000 x142001 x142002 x142003 x142004 x142005 x142006))) else (none)) else (none)) else (if x5.toList = ([] : List UInt8) then (some false) else ((knelllaw24_Of.f x142000 x142001 x142002 x142003 x142004 x142005 x142006).bind fun bt154 => ((link_Line.f k bt154.1 bt154.2.1 bt154.2.2.1 bt154.2.2.2.1 bt154.2.2.2.2.1 bt154.2.2.2.2.2.1 bt154.2.2.2.2.2.2).bind fun t161 => (some ((x5.toList == t161.toList) == (x141000 == x142000 && (x141001 == x142001 && (x141002 == x142002 && (x141003 == x142003 && (x141004 == x142004 && (x141005 == x142005 && (x141006 == x142006))))))))))))
end
def knelllaw24_LinkWords.f (k : Nat) (a0_0 : Int) (a0_1 : Int) (a0_2 : Int) (a0_3 : Int) (a0_4 : Int) (a0_5 : Int) (a0_6 : Int) (a1_0 : Int) (a1_1 : Int) (a1_2 : Int) (a1_3 : Int) (a1_4 : Int) (a1_5 : Int) (a1_6 : Int) : Option (Bool) := (knelllaw24_speaks.f).bind fun t142 => (if t142 = true then ((knellref24_Right.f k a0_0 a0_1 a0_2 a0_3 a0_4 a0_5 a0_6).bind fun t143 => (if t143 = true then ((knellref24_Right.f k a1_0 a1_1 a1_2 a1_3 a1_4 a1_5 a1_6).bind fun t144 => (knelllaw24_LinkWords.j0 k (!t144) a0_0 a0_1 a0_2 a0_3 a0_4 a0_5 a0_6 a1_0 a1_1 a1_2 a1_3 a1_4 a1_5 a1_6)) else (knelllaw24_LinkWords.j0 k true a0_0 a0_1 a0_2 a0_3 a0_4 a0_5 a0_6 a1_0 a1_1 a1_2 a1_3 a1_4 a1_5 a1_6))) else (knelllaw24_LinkWords.j0 k true a0_0 a0_1 a0_2 a0_3 a0_4 a0_5 a0_6 a1_0 a1_1 a1_2 a1_3 a1_4 a1_5 a1_6))
def knelllaw24_LinkWords.T10 : Bool × List (List Nat × List Nat) := (true, [([], []), ([0], [0]), ([1], [1]), ([2], [2]), ([2], [2]), ([4, 2, 2], [2, 4]), ([5, 5, 2], [2, 5]), ([3, 6, 2], [2, 3, 6]), ([2], [2]), ([2], [2]), ([8, 9, 2], [2, 8, 9]), ([7, 10, 2], [2, 7, 10]), ([2, 11], [2, 11]), ([12, 6, 0, 1, 2, 3, 4, 5, 6, 7, 8, 9, 10, 11, 12], [12])])
def knelllaw24_LinkWords.B10 : List Nat := [0, 1, 3, 7, 7, 23, 55, 127, 7, 7, 775, 2047, 4095, 8191]
theorem knelllaw24_LinkWords.tab10 : rtab .any (opsOf Tryd.f3 10) = knelllaw24_LinkWords.T10 := by kernel_rfl
theorem knelllaw24_LinkWords.bits10 : waitsOk knelllaw24_LinkWords.T10.2 knelllaw24_LinkWords.B10 = true := by kernel_rfl
set_option maxHeartbeats 8000000 in
set_option maxRecDepth 100000 in
theorem knelllaw24_LinkWords.calls (k : Nat) (a0_0 : Int) (a0_1 : Int) (a0_2 : Int) (a0_3 : Int) (a0_4 : Int) (a0_5 : Int) (a0_6 : Int) (a1_0 : Int) (a1_1 : Int) (a1_2 : Int) (a1_3 : Int) (a1_4 : Int) (a1_5 : Int) (a1_6 : Int) (r : Bool) (w : World) (htab_ : Go.Proofs.YthljanmfanppdaaDoor.Lw.Tab w) (h : knelllaw24_LinkWords.f k a0_0 a0_1 a0_2 a0_3 a0_4 a0_5 a0_6 a1_0 a1_1 a1_2 a1_3 a1_4 a1_5 a1_6 = some r) :
  Calls Tryd.prog 3 #[.agg #[.int .i64 a0_0, .int .i64 a0_1, .int .i64 a0_2, .int .i64 a0_3, .int .i64 a0_4, .int .i64 a0_5, .int .i64 a0_6], .agg #[.int .i64 a1_0, .int .i64 a1_1, .int .i64 a1_2, .int .i64 a1_3, .int .i64 a1_4, .int .i64 a1_5, .int .i64 a1_6]] w fun e w' => e = .returned (.bool r) ∧ Below w.heap.size w w' := by
 have HTAB_ := Aside0.mk htab_
 clear htab_
 have hu23 := Tryd.underlying23
 have HB := Aside0.mk (Below.refl w.heap.size w)
 have H : ((knelllaw24_speaks.f).bind fun t142 => (if t142 = true then ((knellref24_Right.f k a0_0 a0_1 a0_2 a0_3 a0_4 a0_5 a0_6).bind fun t143 => (if t143 = true then ((knellref24_Right.f k a1_0 a1_1 a1_2 a1_3 a1_4 a1_5 a1_6).bind fun t144 => (knelllaw24_LinkWords.j0 k (!t144) a0_0 a0_1 a0_2 a0_3 a0_4 a0_5 a0_6 a1_0 a1_1 a1_2 a1_3 a1_4 a1_5 a1_6)) else (knelllaw24_LinkWords.j0 k true a0_0 a0_1 a0_2 a0_3 a0_4 a0_5 a0_6 a1_0 a1_1 a1_2 a1_3 a1_4 a1_5 a1_6))) else (knelllaw24_LinkWords.j0 k true a0_0 a0_1 a0_2 a0_3 a0_4 a0_5 a0_6 a1_0 a1_1 a1_2 a1_3 a1_4 a1_5 a1_6))) = some r := h
 clear h
 have HC3 := Aside0.mk H
 clear H
 go_enter Tryd.func3, Tryd.ntmps3
 go_upto_region 1 with (first | ((with_reducible refine gate_dst (N := 2) rfl ?_); (try (refine gate_guard (by rfl) ?_; dsimp only)); refine box_event ?hg (N := 2) ?hd (cs := #[.int .i64 a0_0, .int .i64 a0_1, .int .i64 a0_2, .int .i64 a0_3, .int .i64 a0_4, .int .i64 a0_5, .int .i64 a0_6]) (t := 23) ?hr ?_; (case hd => rfl); (case hg => rfl); (case hr => first | (go_simp; done) | (go_simp; rfl)); intro gb140 hg w4 hbox hb; have n0_ := Aside0.mk (below_step (by repeat (first | (with_reducible first | exact HB.out | apply below_alloc | apply pw_below_drewN | apply below_drew1) | exact HB.out)) hb); have n1_ := Aside0.mk (hbox); have n2_ := Aside0.mk ((by rw [hg]; exact (below_size (by repeat (first | (with_reducible first | exact HB.out | apply below_alloc | apply pw_below_drewN | apply below_drew1) | exact HB.out))) : w.heap.size ≤ gb140)); have n3_ := Aside0.mk ((by rw [hg]; exact (below_size (by repeat (first | (with_reducible first | exact HB.out | apply below_alloc | apply pw_below_drewN | apply below_drew1) | exact HB.out))) : w.heap.size ≤ gb140)); clear HB; have HB := n0_; have BK140 := n1_; have GW140 := n2_; have GE140 := n3_; clear n0_ n1_ n2_ n3_; clear hb hbox hg) | ((with_reducible refine gate_dst (N := 3) rfl ?_); (try (refine gate_guard (by rfl) ?_; dsimp only)); refine box_event ?hg (N := 3) ?hd (cs := #[.int .i64 a1_0, .int .i64 a1_1, .int .i64 a1_2, .int .i64 a1_3, .int .i64 a1_4, .int .i64 a1_5, .int .i64 a1_6]) (t := 23) ?hr ?_; (case hd => rfl); (case hg => rfl); (case hr => first | (go_simp; done) | (go_simp; rfl)); intro gb141 hg w5 hbox hb; have n0_ := Aside0.mk (blk_below (g := gb140) (o := .cells #[.int .i64 a0_0, .int .i64 a0_1, .int .i64 a0_2, .int .i64 a0_3, .int .i64 a0_4, .int .i64 a0_5, .int .i64 a0_6] 23 (0, 0)) (by (with_reducible repeat (first | refine blk_drewN ?_ _ | refine blk_drew ?_ | refine blk_alloc ?_ _)); exact BK140.out) hb); have n1_ := Aside0.mk (below_step (by repeat (first | (with_reducible first | exact HB.out | apply below_alloc | apply pw_below_drewN | apply below_drew1 | refine below_set ?_ GE140.out) | exact HB.out)) hb); have n2_ := Aside0.mk (hbox); have n3_ := Aside0.mk ((by rw [hg]; exact (below_size (by repeat (first | (with_reducible first | exact HB.out | apply below_alloc | apply pw_below_drewN | apply below_drew1 | refine below_set ?_ GE140.out) | exact HB.out))) : w.heap.size ≤ gb141)); have n4_ := Aside0.mk ((by rw [hg]; exact (below_size (by repeat (first | (with_reducible first | exact HB.out | apply below_alloc | apply pw_below_drewN | apply below_drew1 | refine below_set ?_ GE140.out) | exact HB.out))) : w.heap.size ≤ gb141)); have n5_ := Aside0.mk ((by rw [hg]; exact Nat.ne_of_lt (blk_lt (g := gb140) (o := .cells #[.int .i64 a0_0, .int .i64 a0_1, .int .i64 a0_2, .int .i64 a0_3, .int .i64 a0_4, .int .i64 a0_5, .int .i64 a0_6] 23 (0, 0)) (by (with_reducible repeat (first | refine blk_drewN ?_ _ | refine blk_drew ?_ | refine blk_alloc ?_ _)); exact BK140.out)) : gb140 ≠ gb141)); have n6_ := Aside0.mk ((by rw [hg]; exact Nat.ne_of_gt (blk_lt (g := gb140) (o := .cells #[.int .i64 a0_0, .int .i64 a0_1, .int .i64 a0_2, .int .i64 a0_3, .int .i64 a0_4, .int .i64 a0_5, .int .i64 a0_6] 23 (0, 0)) (by (with_reducible repeat (first | refine blk_drewN ?_ _ | refine blk_drew ?_ | refine blk_alloc ?_ _)); exact BK140.out)) : gb141 ≠ gb140)); clear BK140; clear HB; have BK140 := n0_; have HB := n1_; have BK141 := n2_; have GW141 := n3_; have GE141 := n4_; have NB140_141 := n5_; have NB141_140 := n6_; clear n0_ n1_ n2_ n3_ n4_ n5_ n6_; clear hb hbox hg))
 (try simp only [Act.put, sQ0, sQ1, sQ2])
 go_cut [18] (fun v18 wc => ∃ (kq : Nat) (x18_2 : Bool), v18 = .bool x18_2 ∧ Aside0 (knelllaw24_LinkWords.j0 kq x18_2 a0_0 a0_1 a0_2 a0_3 a0_4 a0_5 a0_6 a1_0 a1_1 a1_2 a1_3 a1_4 a1_5 a1_6 = some r) ∧ Aside0 (kq ≤ k) ∧ Aside0 (wc.heap[gb140]? = some (.cells #[.int .i64 a0_0, .int .i64 a0_1, .int .i64 a0_2, .int .i64 a0_3, .int .i64 a0_4, .int .i64 a0_5, .int .i64 a0_6] 23 (0, 0))) ∧ Aside0 (wc.heap[gb141]? = some (.cells #[.int .i64 a1_0, .int .i64 a1_1, .int .i64 a1_2, .int .i64 a1_3, .int .i64 a1_4, .int .i64 a1_5, .int .i64 a1_6] 23 (0, 0))) ∧ Aside0 (Below w.heap.size w wc))
 case first =>
  have H := HC3.out
  clear HC3
  replace H := Option.bind_eq_some_iff.mp H
  obtain ⟨t142, A60, H⟩ := H
  replace H : (if t142 = true then ((knellref24_Right.f k a0_0 a0_1 a0_2 a0_3 a0_4 a0_5 a0_6).bind fun t143 => (if t143 = true then ((knellref24_Right.f k a1_0 a1_1 a1_2 a1_3 a1_4 a1_5 a1_6).bind fun t144 => (knelllaw24_LinkWords.j0 k (!t144) a0_0 a0_1 a0_2 a0_3 a0_4 a0_5 a0_6 a1_0 a1_1 a1_2 a1_3 a1_4 a1_5 a1_6)) else (knelllaw24_LinkWords.j0 k true a0_0 a0_1 a0_2 a0_3 a0_4 a0_5 a0_6 a1_0 a1_1 a1_2 a1_3 a1_4 a1_5 a1_6))) else (knelllaw24_LinkWords.j0 k true a0_0 a0_1 a0_2 a0_3 a0_4 a0_5 a0_6 a1_0 a1_1 a1_2 a1_3 a1_4 a1_5 a1_6)) = some r := H
  have A6 := Aside0.mk A60
  clear A60
  by_cases c7 : t142 = true
  ·subst c7
   have H1 : ((knellref24_Right.f k a0_0 a0_1 a0_2 a0_3 a0_4 a0_5 a0_6).bind fun t143 => (if t143 = true then ((knellref24_Right.f k a1_0 a1_1 a1_2 a1_3 a1_4 a1_5 a1_6).bind fun t144 => (knelllaw24_LinkWords.j0 k (!t144) a0_0 a0_1 a0_2 a0_3 a0_4 a0_5 a0_6 a1_0 a1_1 a1_2 a1_3 a1_4 a1_5 a1_6)) else (knelllaw24_LinkWords.j0 k true a0_0 a0_1 a0_2 a0_3 a0_4 a0_5 a0_6 a1_0 a1_1 a1_2 a1_3 a1_4 a1_5 a1_6))) = some r := by rw [if_pos rfl] at H; exact H
   clear H
   have H := H1
   clear H1
   replace H := Option.bind_eq_some_iff.mp H
   obtain ⟨t143, A80, H⟩ := H
   replace H : (if t143 = true then ((knellref24_Right.f k a1_0 a1_1 a1_2 a1_3 a1_4 a1_5 a1_6).bind fun t144 => (knelllaw24_LinkWords.j0 k (!t144) a0_0 a0_1 a0_2 a0_3 a0_4 a0_5 a0_6 a1_0 a1_1 a1_2 a1_3 a1_4 a1_5 a1_6)) else (knelllaw24_LinkWords.j0 k true a0_0 a0_1 a0_2 a0_3 a0_4 a0_5 a0_6 a1_0 a1_1 a1_2 a1_3 a1_4 a1_5 a1_6)) = some r := H
   have A8 := Aside0.mk A80
   clear A80
   by_cases c9 : t143 = true
   ·subst c9
    have H1 : ((knellref24_Right.f k a1_0 a1_1 a1_2 a1_3 a1_4 a1_5 a1_6).bind fun t144 => (knelllaw24_LinkWords.j0 k (!t144) a0_0 a0_1 a0_2 a0_3 a0_4 a0_5 a0_6 a1_0 a1_1 a1_2 a1_3 a1_4 a1_5 a1_6)) = some r := by rw [if_pos rfl] at H; exact H
    clear H
    have H := H1
    clear H1
    replace H := Option.bind_eq_some_iff.mp H
    obtain ⟨t144, A100, H⟩ := H
    replace H : (knelllaw24_LinkWords.j0 k (!t144) a0_0 a0_1 a0_2 a0_3 a0_4 a0_5 a0_6 a1_0 a1_1 a1_2 a1_3 a1_4 a1_5 a1_6) = some r := H
    have A10 := Aside0.mk A100
    clear A100
    have H' := Aside0.mk H
    clear H
    go_wp2_with (first | ((with_reducible refine gate_callee (f := 4) rfl ?_); refine goesL_ (some 7) rfl rfl Tryd.func4 (by kernel_rfl) rfl #[] rfl (by (try simp only [List.map_toArray, List.map_cons, List.map_nil]); first | done | rfl | (simp only [List.length_drop, List.length_take]; rfl)) ?_; (with_reducible refine (knelllaw24_speaks.calls  true _ A6.out).mono ?_); rintro e w11 ⟨rfl, hb⟩; refine ⟨_, rfl, ?_⟩; have n0_ := Aside0.mk (blk_below (g := gb140) (o := .cells #[.int .i64 a0_0, .int .i64 a0_1, .int .i64 a0_2, .int .i64 a0_3, .int .i64 a0_4, .int .i64 a0_5, .int .i64 a0_6] 23 (0, 0)) (by (with_reducible repeat (first | refine blk_drewN ?_ _ | refine blk_drew ?_ | refine blk_alloc ?_ _)); exact BK140.out) hb); have n1_ := Aside0.mk (blk_below (g := gb141) (o := .cells #[.int .i64 a1_0, .int .i64 a1_1, .int .i64 a1_2, .int .i64 a1_3, .int .i64 a1_4, .int .i64 a1_5, .int .i64 a1_6] 23 (0, 0)) (by (with_reducible repeat (first | refine blk_drewN ?_ _ | refine blk_drew ?_ | refine blk_alloc ?_ _)); exact BK141.out) hb); have n2_ := Aside0.mk (below_step (by repeat (first | (with_reducible first | exact HB.out | apply below_alloc | apply pw_below_drewN | apply below_drew1 | refine below_set ?_ GE140.out | refine below_set ?_ GE141.out) | exact HB.out)) hb); clear BK140; clear BK141; clear HB; have BK140 := n0_; have BK141 := n1_; have HB := n2_; clear n0_ n1_ n2_; (try clear hb); (try clear hb2); (try clear hk); (try clear hi); have hnb12 := NB140_141.out; have hnc12 := NB141_140.out; have hcz13_0 : w11.cell? ⟨gb140, 0, none⟩ = some (.int .i64 a0_0) := (blk_cell BK140.out 0).trans rfl; have hcz13_1 : w11.cell? ⟨gb140, 1, none⟩ = some (.int .i64 a0_1) := (blk_cell BK140.out 1).trans rfl; have hcz13_2 : w11.cell? ⟨gb140, 2, none⟩ = some (.int .i64 a0_2) := (blk_cell BK140.out 2).trans rfl; have hcz13_3 : w11.cell? ⟨gb140, 3, none⟩ = some (.int .i64 a0_3) := (blk_cell BK140.out 3).trans rfl; have hcz13_4 : w11.cell? ⟨gb140, 4, none⟩ = some (.int .i64 a0_4) := (blk_cell BK140.out 4).trans rfl; have hcz13_5 : w11.cell? ⟨gb140, 5, none⟩ = some (.int .i64 a0_5) := (blk_cell BK140.out 5).trans rfl; have hcz13_6 : w11.cell? ⟨gb140, 6, none⟩ = some (.int .i64 a0_6) := (blk_cell BK140.out 6).trans rfl; have hfz13_0 := blk_frozen BK140.out 0; have hfz13_1 := blk_frozen BK140.out 1; have hfz13_2 := blk_frozen BK140.out 2; have hfz13_3 := blk_frozen BK140.out 3; have hfz13_4 := blk_frozen BK140.out 4; have hfz13_5 := blk_frozen BK140.out 5; have hfz13_6 := blk_frozen BK140.out 6) | (go_at_call 5; (with_reducible refine (knellref24_Right.calls k a0_0 a0_1 a0_2 a0_3 a0_4 a0_5 a0_6 true _ A8.out).mono ?_); rintro e w14 ⟨rfl, hb⟩; have n0_ := Aside0.mk (blk_below (g := gb140) (o := .cells #[.int .i64 a0_0, .int .i64 a0_1, .int .i64 a0_2, .int .i64 a0_3, .int .i64 a0_4, .int .i64 a0_5, .int .i64 a0_6] 23 (0, 0)) (by (with_reducible repeat (first | refine blk_drewN ?_ _ | refine blk_drew ?_ | refine blk_alloc ?_ _)); exact BK140.out) hb); have n1_ := Aside0.mk (blk_below (g := gb141) (o := .cells #[.int .i64 a1_0, .int .i64 a1_1, .int .i64 a1_2, .int .i64 a1_3, .int .i64 a1_4, .int .i64 a1_5, .int .i64 a1_6] 23 (0, 0)) (by (with_reducible repeat (first | refine blk_drewN ?_ _ | refine blk_drew ?_ | refine blk_alloc ?_ _)); exact BK141.out) hb); have n2_ := Aside0.mk (below_step (by repeat (first | (with_reducible first | exact HB.out | apply below_alloc | apply pw_below_drewN | apply below_drew1 | refine below_set ?_ GE140.out | refine below_set ?_ GE141.out) | exact HB.out)) hb); clear BK140; clear BK141; clear HB; have BK140 := n0_; have BK141 := n1_; have HB := n2_; clear n0_ n1_ n2_; (try clear hb); (try clear hb2); (try clear hk); (try clear hi); have hcz15_0 : w14.cell? ⟨gb141, 0, none⟩ = some (.int .i64 a1_0) := (blk_cell BK141.out 0).trans rfl; have hcz15_1 : w14.cell? ⟨gb141, 1, none⟩ = some (.int .i64 a1_1) := (blk_cell BK141.out 1).trans rfl; have hcz15_2 : w14.cell? ⟨gb141, 2, none⟩ = some (.int .i64 a1_2) := (blk_cell BK141.out 2).trans rfl; have hcz15_3 : w14.cell? ⟨gb141, 3, none⟩ = some (.int .i64 a1_3) := (blk_cell BK141.out 3).trans rfl; have hcz15_4 : w14.cell? ⟨gb141, 4, none⟩ = some (.int .i64 a1_4) := (blk_cell BK141.out 4).trans rfl; have hcz15_5 : w14.cell? ⟨gb141, 5, none⟩ = some (.int .i64 a1_5) := (blk_cell BK141.out 5).trans rfl; have hcz15_6 : w14.cell? ⟨gb141, 6, none⟩ = some (.int .i64 a1_6) := (blk_cell BK141.out 6).trans rfl; have hfz15_0 := blk_frozen BK141.out 0; have hfz15_1 := blk_frozen BK141.out 1; have hfz15_2 := blk_frozen BK141.out 2; have hfz15_3 := blk_frozen BK141.out 3; have hfz15_4 := blk_frozen BK141.out 4; have hfz15_5 := blk_frozen BK141.out 5; have hfz15_6 := blk_frozen BK141.out 6) | (go_at_call 5; (with_reducible refine (knellref24_Right.calls k a1_0 a1_1 a1_2 a1_3 a1_4 a1_5 a1_6 t144 _ A10.out).mono ?_); rintro e w16 ⟨rfl, hb⟩; have n0_ := Aside0.mk (blk_below (g := gb140) (o := .cells #[.int .i64 a0_0, .int .i64 a0_1, .int .i64 a0_2, .int .i64 a0_3, .int .i64 a0_4, .int .i64 a0_5, .int .i64 a0_6] 23 (0, 0)) (by (with_reducible repeat (first | refine blk_drewN ?_ _ | refine blk_drew ?_ | refine blk_alloc ?_ _)); exact BK140.out) hb); have n1_ := Aside0.mk (blk_below (g := gb141) (o := .cells #[.int .i64 a1_0, .int .i64 a1_1, .int .i64 a1_2, .int .i64 a1_3, .int .i64 a1_4, .int .i64 a1_5, .int .i64 a1_6] 23 (0, 0)) (by (with_reducible repeat (first | refine blk_drewN ?_ _ | refine blk_drew ?_ | refine blk_alloc ?_ _)); exact BK141.out) hb); have n2_ := Aside0.mk (below_step (by repeat (first | (with_reducible first | exact HB.out | apply below_alloc | apply pw_below_drewN | apply below_drew1 | refine below_set ?_ GE140.out | refine below_set ?_ GE141.out) | exact HB.out)) hb); clear BK140; clear BK141; clear HB; have BK140 := n0_; have BK141 := n1_; have HB := n2_; clear n0_ n1_ n2_; (try clear hb); (try clear hb2); (try clear hk); (try clear hi)))
    go_meet
    case rel => exact ⟨_, (!t144), (by first | rfl | (simp; done) | (simp [*]; done)), H', ⟨by first | omega | exact Nat.le_refl _⟩, ⟨by (with_reducible repeat (first | refine blk_drewN ?_ _ | refine blk_drew ?_ | refine blk_alloc ?_ _)); exact BK140.out⟩, ⟨by (with_reducible repeat (first | refine blk_drewN ?_ _ | refine blk_drew ?_ | refine blk_alloc ?_ _)); exact BK141.out⟩, ⟨by repeat (first | (with_reducible first | exact HB.out | apply below_alloc | apply pw_below_drewN | apply below_drew1 | refine below_set ?_ GE140.out | refine below_set ?_ GE141.out) | exact HB.out)⟩⟩
   ·replace c9 := Bool.eq_false_iff.mpr c9
    subst c9
    have H1 : (knelllaw24_LinkWords.j0 k true a0_0 a0_1 a0_2 a0_3 a0_4 a0_5 a0_6 a1_0 a1_1 a1_2 a1_3 a1_4 a1_5 a1_6) = some r := by rw [if_neg (show ¬ (false = true) by decide)] at H; exact H
    clear H
    have H := H1
    clear H1
    have H' := Aside0.mk H
    clear H
    go_wp2_with (first | ((with_reducible refine gate_callee (f := 4) rfl ?_); refine goesL_ (some 7) rfl rfl Tryd.func4 (by kernel_rfl) rfl #[] rfl (by (try simp only [List.map_toArray, List.map_cons, List.map_nil]); first | done | rfl | (simp only [List.length_drop, List.length_take]; rfl)) ?_; (with_reducible refine (knelllaw24_speaks.calls  true _ A6.out).mono ?_); rintro e w17 ⟨rfl, hb⟩; refine ⟨_, rfl, ?_⟩; have n0_ := Aside0.mk (blk_below (g := gb140) (o := .cells #[.int .i64 a0_0, .int .i64 a0_1, .int .i64 a0_2, .int .i64 a0_3, .int .i64 a0_4, .int .i64 a0_5, .int .i64 a0_6] 23 (0, 0)) (by (with_reducible repeat (first | refine blk_drewN ?_ _ | refine blk_drew ?_ | refine blk_alloc ?_ _)); exact BK140.out) hb); have n1_ := Aside0.mk (blk_below (g := gb141) (o := .cells #[.int .i64 a1_0, .int .i64 a1_1, .int .i64 a1_2, .int .i64 a1_3, .int .i64 a1_4, .int .i64 a1_5, .int .i64 a1_6] 23 (0, 0)) (by (with_reducible repeat (first | refine blk_drewN ?_ _ | refine blk_drew ?_ | refine blk_alloc ?_ _)); exact BK141.out) hb); have n2_ := Aside0.mk (below_step (by repeat (first | (with_reducible first | exact HB.out | apply below_alloc | apply pw_below_drewN | apply below_drew1 | refine below_set ?_ GE140.out | refine below_set ?_ GE141.out) | exact HB.out)) hb); clear BK140; clear BK141; clear HB; have BK140 := n0_; have BK141 := n1_; have HB := n2_; clear n0_ n1_ n2_; (try clear hb); (try clear hb2); (try clear hk); (try clear hi); have hnb18 := NB140_141.out; have hnc18 := NB141_140.out; have hcz19_0 : w17.cell? ⟨gb140, 0, none⟩ = some (.int .i64 a0_0) := (blk_cell BK140.out 0).trans rfl; have hcz19_1 : w17.cell? ⟨gb140, 1, none⟩ = some (.int .i64 a0_1) := (blk_cell BK140.out 1).trans rfl; have hcz19_2 : w17.cell? ⟨gb140, 2, none⟩ = some (.int .i64 a0_2) := (blk_cell BK140.out 2).trans rfl; have hcz19_3 : w17.cell? ⟨gb140, 3, none⟩ = some (.int .i64 a0_3) := (blk_cell BK140.out 3).trans rfl; have hcz19_4 : w17.cell? ⟨gb140, 4, none⟩ = some (.int .i64 a0_4) := (blk_cell BK140.out 4).trans rfl; have hcz19_5 : w17.cell? ⟨gb140, 5, none⟩ = some (.int .i64 a0_5) := (blk_cell BK140.out 5).trans rfl; have hcz19_6 : w17.cell? ⟨gb140, 6, none⟩ = some (.int .i64 a0_6) := (blk_cell BK140.out 6).trans rfl; have hfz19_0 := blk_frozen BK140.out 0; have hfz19_1 := blk_frozen BK140.out 1; have hfz19_2 := blk_frozen BK140.out 2; have hfz19_3 := blk_frozen BK140.out 3; have hfz19_4 := blk_frozen BK140.out 4; have hfz19_5 := blk_frozen BK140.out 5; have hfz19_6 := blk_frozen BK140.out 6) | (go_at_call 5; (with_reducible refine (knellref24_Right.calls k a0_0 a0_1 a0_2 a0_3 a0_4 a0_5 a0_6 false _ A8.out).mono ?_); rintro e w20 ⟨rfl, hb⟩; have n0_ := Aside0.mk (blk_below (g := gb140) (o := .cells #[.int .i64 a0_0, .int .i64 a0_1, .int .i64 a0_2, .int .i64 a0_3, .int .i64 a0_4, .int .i64 a0_5, .int .i64 a0_6] 23 (0, 0)) (by (with_reducible repeat (first | refine blk_drewN ?_ _ | refine blk_drew ?_ | refine blk_alloc ?_ _)); exact BK140.out) hb); have n1_ := Aside0.mk (blk_below (g := gb141) (o := .cells #[.int .i64 a1_0, .int .i64 a1_1, .int .i64 a1_2, .int .i64 a1_3, .int .i64 a1_4, .int .i64 a1_5, .int .i64 a1_6] 23 (0, 0)) (by (with_reducible repeat (first | refine blk_drewN ?_ _ | refine blk_drew ?_ | refine blk_alloc ?_ _)); exact BK141.out) hb); have n2_ := Aside0.mk (below_step (by repeat (first | (with_reducible first | exact HB.out | apply below_alloc | apply pw_below_drewN | apply below_drew1 | refine below_set ?_ GE140.out | refine below_set ?_ GE141.out) | exact HB.out)) hb); clear BK140; clear BK141; clear HB; have BK140 := n0_; have BK141 := n1_; have HB := n2_; clear n0_ n1_ n2_; (try clear hb); (try clear hb2); (try clear hk); (try clear hi)))
    go_meet
    case rel => exact ⟨_, (true), (by first | rfl | (simp; done) | (simp [*]; done)), H', ⟨by first | omega | exact Nat.le_refl _⟩, ⟨by (with_reducible repeat (first | refine blk_drewN ?_ _ | refine blk_drew ?_ | refine blk_alloc ?_ _)); exact BK140.out⟩, ⟨by (with_reducible repeat (first | refine blk_drewN ?_ _ | refine blk_drew ?_ | refine blk_alloc ?_ _)); exact BK141.out⟩, ⟨by repeat (first | (with_reducible first | exact HB.out | apply below_alloc | apply pw_below_drewN | apply below_drew1 | refine below_set ?_ GE140.out | refine below_set ?_ GE141.out) | exact HB.out)⟩⟩
  ·replace c7 := Bool.eq_false_iff.mpr c7
   subst c7
   have H1 : (knelllaw24_LinkWords.j0 k true a0_0 a0_1 a0_2 a0_3 a0_4 a0_5 a0_6 a1_0 a1_1 a1_2 a1_3 a1_4 a1_5 a1_6) = some r := by rw [if_neg (show ¬ (false = true) by decide)] at H; exact H
   clear H
   have H := H1
   clear H1
   have H' := Aside0.mk H
   clear H
   go_wp2_with (first | ((with_reducible refine gate_callee (f := 4) rfl ?_); refine goesL_ (some 7) rfl rfl Tryd.func4 (by kernel_rfl) rfl #[] rfl (by (try simp only [List.map_toArray, List.map_cons, List.map_nil]); first | done | rfl | (simp only [List.length_drop, List.length_take]; rfl)) ?_; (with_reducible refine (knelllaw24_speaks.calls  false _ A6.out).mono ?_); rintro e w21 ⟨rfl, hb⟩; refine ⟨_, rfl, ?_⟩; have n0_ := Aside0.mk (blk_below (g := gb140) (o := .cells #[.int .i64 a0_0, .int .i64 a0_1, .int .i64 a0_2, .int .i64 a0_3, .int .i64 a0_4, .int .i64 a0_5, .int .i64 a0_6] 23 (0, 0)) (by (with_reducible repeat (first | refine blk_drewN ?_ _ | refine blk_drew ?_ | refine blk_alloc ?_ _)); exact BK140.out) hb); have n1_ := Aside0.mk (blk_below (g := gb141) (o := .cells #[.int .i64 a1_0, .int .i64 a1_1, .int .i64 a1_2, .int .i64 a1_3, .int .i64 a1_4, .int .i64 a1_5, .int .i64 a1_6] 23 (0, 0)) (by (with_reducible repeat (first | refine blk_drewN ?_ _ | refine blk_drew ?_ | refine blk_alloc ?_ _)); exact BK141.out) hb); have n2_ := Aside0.mk (below_step (by repeat (first | (with_reducible first | exact HB.out | apply below_alloc | apply pw_below_drewN | apply below_drew1 | refine below_set ?_ GE140.out | refine below_set ?_ GE141.out) | exact HB.out)) hb); clear BK140; clear BK141; clear HB; have BK140 := n0_; have BK141 := n1_; have HB := n2_; clear n0_ n1_ n2_; (try clear hb); (try clear hb2); (try clear hk); (try clear hi)))
   go_meet
   case rel => exact ⟨_, (true), (by first | rfl | (simp; done) | (simp [*]; done)), H', ⟨by first | omega | exact Nat.le_refl _⟩, ⟨by (with_reducible repeat (first | refine blk_drewN ?_ _ | refine blk_drew ?_ | refine blk_alloc ?_ _)); exact BK140.out⟩, ⟨by (with_reducible repeat (first | refine blk_drewN ?_ _ | refine blk_drew ?_ | refine blk_alloc ?_ _)); exact BK141.out⟩, ⟨by repeat (first | (with_reducible first | exact HB.out | apply below_alloc | apply pw_below_drewN | apply below_drew1 | refine below_set ?_ GE140.out | refine below_set ?_ GE141.out) | exact HB.out)⟩⟩
 case rest =>
  clear HC3
  try clear c1
  try clear p2
  try clear c3
  try clear c4
  try clear c7
  try clear c9
  try clear c12
  try clear c18
  try clear hcz13_0
  try clear hcz13_1
  try clear hcz13_2
  try clear hcz13_3
  try clear hcz13_4
  try clear hcz13_5
  try clear hcz13_6
  try clear hcz15_0
  try clear hcz15_1
  try clear hcz15_2
  try clear hcz15_3
  try clear hcz15_4
  try clear hcz15_5
  try clear hcz15_6
  try clear hcz19_0
  try clear hcz19_1
  try clear hcz19_2
  try clear hcz19_3
  try clear hcz19_4
  try clear hcz19_5
  try clear hcz19_6
  try clear hfz13_0
  try clear hfz13_1
  try clear hfz13_2
  try clear hfz13_3
  try clear hfz13_4
  try clear hfz13_5
  try clear hfz13_6
  try clear hfz15_0
  try clear hfz15_1
  try clear hfz15_2
  try clear hfz15_3
  try clear hfz15_4
  try clear hfz15_5
  try clear hfz15_6
  try clear hfz19_0
  try clear hfz19_1
  try clear hfz19_2
  try clear hfz19_3
  try clear hfz19_4
  try clear hfz19_5
  try clear hfz19_6
  obtain ⟨kq, x18_2, rfl, HA, HJ2, BK140, BK141, HB⟩ := hcut
  cases kq with
  | zero => exact absurd HA.out (by simp [knelllaw24_LinkWords.j0])
  | succ kj2 =>
   have H := HA.out
   clear HA
   simp only [knelllaw24_LinkWords.j0] at H
   by_cases c22 : x18_2 = true
   ·subst c22
    have H1 : ((knelllaw24_speaks.f).bind fun t145 => (some t145)) = some r := by rw [if_pos rfl] at H; exact H
    clear H
    have H := H1
    clear H1
    replace H := Option.bind_eq_some_iff.mp H
    obtain ⟨t145, A230, H⟩ := H
    replace H : (some t145) = some r := H
    have A23 := Aside0.mk A230
    clear A230
    obtain rfl := Option.some.inj H
    go_wp2_with (first | ((with_reducible refine gate_callee (f := 4) rfl ?_); refine goesL_ (some 19) rfl rfl Tryd.func4 (by kernel_rfl) rfl #[] rfl (by (try simp only [List.map_toArray, List.map_cons, List.map_nil]); first | done | rfl | (simp only [List.length_drop, List.length_take]; rfl)) ?_; (with_reducible refine (knelllaw24_speaks.calls  t145 _ A23.out).mono ?_); rintro e w24 ⟨rfl, hb⟩; refine ⟨_, rfl, ?_⟩; have n0_ := Aside0.mk (blk_below (g := gb140) (o := .cells #[.int .i64 a0_0, .int .i64 a0_1, .int .i64 a0_2, .int .i64 a0_3, .int .i64 a0_4, .int .i64 a0_5, .int .i64 a0_6] 23 (0, 0)) (by (with_reducible repeat (first | refine blk_drewN ?_ _ | refine blk_drew ?_ | refine blk_alloc ?_ _)); exact BK140.out) hb); have n1_ := Aside0.mk (blk_below (g := gb141) (o := .cells #[.int .i64 a1_0, .int .i64 a1_1, .int .i64 a1_2, .int .i64 a1_3, .int .i64 a1_4, .int .i64 a1_5, .int .i64 a1_6] 23 (0, 0)) (by (with_reducible repeat (first | refine blk_drewN ?_ _ | refine blk_drew ?_ | refine blk_alloc ?_ _)); exact BK141.out) hb); have n2_ := Aside0.mk (below_step (by repeat (first | (with_reducible first | exact HB.out | apply below_alloc | apply pw_below_drewN | apply below_drew1 | refine below_set ?_ GE140.out | refine below_set ?_ GE141.out) | exact HB.out)) hb); clear BK140; clear BK141; clear HB; have BK140 := n0_; have BK141 := n1_; have HB := n2_; clear n0_ n1_ n2_; (try clear hb); (try clear hb2); (try clear hk); (try clear hi)))
    go_ret
    exact ⟨by first | rfl | (simp [errW_none, errW_some] <;> rfl) | (simp [*, errW_none, errW_some] <;> rfl), by repeat (first | (with_reducible first | exact HB.out | apply below_alloc | apply pw_below_drewN | apply below_drew1 | refine below_set ?_ GE140.out | refine below_set ?_ GE141.out) | exact HB.out)⟩
   ·replace c22 := Bool.eq_false_iff.mpr c22
    subst c22
    have H1 : ((knelllaw24_Of.f a0_0 a0_1 a0_2 a0_3 a0_4 a0_5 a0_6).bind fun bt146 => ((link_Line.f kj2 bt146.1 bt146.2.1 bt146.2.2.1 bt146.2.2.2.1 bt146.2.2.2.2.1 bt146.2.2.2.2.2.1 bt146.2.2.2.2.2.2).bind fun t153 => (knelllaw24_LinkWords.l0 kj2 t153 (t153.size : Int) 0 a0_0 a0_1 a0_2 a0_3 a0_4 a0_5 a0_6 a1_0 a1_1 a1_2 a1_3 a1_4 a1_5 a1_6))) = some r := by rw [if_neg (show ¬ (false = true) by decide)] at H; exact H
    clear H
    have H := H1
    clear H1
    replace H := Option.bind_eq_some_iff.mp H
    obtain ⟨⟨t146, t147, t148, t149, t150, t151, t152⟩, A250, H⟩ := H
    replace H : ((link_Line.f kj2 t146 t147 t148 t149 t150 t151 t152).bind fun t153 => (knelllaw24_LinkWords.l0 kj2 t153 (t153.size : Int) 0 a0_0 a0_1 a0_2 a0_3 a0_4 a0_5 a0_6 a1_0 a1_1 a1_2 a1_3 a1_4 a1_5 a1_6)) = some r := H
    have A25 := Aside0.mk A250
    clear A250
    replace H := Option.bind_eq_some_iff.mp H
    obtain ⟨t153, A260, H⟩ := H
    replace H : (knelllaw24_LinkWords.l0 kj2 t153 (t153.size : Int) 0 a0_0 a0_1 a0_2 a0_3 a0_4 a0_5 a0_6 a1_0 a1_1 a1_2 a1_3 a1_4 a1_5 a1_6) = some r := H
    have A26 := Aside0.mk A260
    clear A260
    have H' := Aside0.mk H
    clear H
    have hnb27 := NB140_141.out
    have hnc27 := NB141_140.out
    have hcz28_0 : wc.cell? ⟨gb140, 0, none⟩ = some (.int .i64 a0_0) := (blk_cell BK140.out 0).trans rfl
    have hcz28_1 : wc.cell? ⟨gb140, 1, none⟩ = some (.int .i64 a0_1) := (blk_cell BK140.out 1).trans rfl
    have hcz28_2 : wc.cell? ⟨gb140, 2, none⟩ = some (.int .i64 a0_2) := (blk_cell BK140.out 2).trans rfl
    have hcz28_3 : wc.cell? ⟨gb140, 3, none⟩ = some (.int .i64 a0_3) := (blk_cell BK140.out 3).trans rfl
    have hcz28_4 : wc.cell? ⟨gb140, 4, none⟩ = some (.int .i64 a0_4) := (blk_cell BK140.out 4).trans rfl
    have hcz28_5 : wc.cell? ⟨gb140, 5, none⟩ = some (.int .i64 a0_5) := (blk_cell BK140.out 5).trans rfl
    have hcz28_6 : wc.cell? ⟨gb140, 6, none⟩ = some (.int .i64 a0_6) := (blk_cell BK140.out 6).trans rfl
    have hfz28_0 := blk_frozen BK140.out 0
    have hfz28_1 := blk_frozen BK140.out 1
    have hfz28_2 := blk_frozen BK140.out 2
    have hfz28_3 := blk_frozen BK140.out 3
    have hfz28_4 := blk_frozen BK140.out 4
    have hfz28_5 := blk_frozen BK140.out 5
    have hfz28_6 := blk_frozen BK140.out 6
    go_wp2_with (first | ((with_reducible refine gate_callee (f := 7) rfl ?_); refine goesL_ (some 21) rfl rfl Tryd.func7 (by kernel_rfl) rfl #[.agg #[.int .i64 a0_0, .int .i64 a0_1, .int .i64 a0_2, .int .i64 a0_3, .int .i64 a0_4, .int .i64 a0_5, .int .i64 a0_6]] rfl (by (try simp only [List.map_toArray, List.map_cons, List.map_nil]); first | done | rfl | (simp only [List.length_drop, List.length_take]; rfl)) ?_; (with_reducible refine (knelllaw24_Of.calls a0_0 a0_1 a0_2 a0_3 a0_4 a0_5 a0_6 t146 t147 t148 t149 t150 t151 t152 _ A25.out).mono ?_); rintro e w29 ⟨rfl, hb⟩; refine ⟨_, rfl, ?_⟩; have n0_ := Aside0.mk (blk_below (g := gb140) (o := .cells #[.int .i64 a0_0, .int .i64 a0_1, .int .i64 a0_2, .int .i64 a0_3, .int .i64 a0_4, .int .i64 a0_5, .int .i64 a0_6] 23 (0, 0)) (by (with_reducible repeat (first | refine blk_drewN ?_ _ | refine blk_drew ?_ | refine blk_alloc ?_ _)); exact BK140.out) hb); have n1_ := Aside0.mk (blk_below (g := gb141) (o := .cells #[.int .i64 a1_0, .int .i64 a1_1, .int .i64 a1_2, .int .i64 a1_3, .int .i64 a1_4, .int .i64 a1_5, .int .i64 a1_6] 23 (0, 0)) (by (with_reducible repeat (first | refine blk_drewN ?_ _ | refine blk_drew ?_ | refine blk_alloc ?_ _)); exact BK141.out) hb); have n2_ := Aside0.mk (below_step (by repeat (first | (with_reducible first | exact HB.out | apply below_alloc | apply pw_below_drewN | apply below_drew1 | refine below_set ?_ GE140.out | refine below_set ?_ GE141.out) | exact HB.out)) hb); clear BK140; clear BK141; clear HB; have BK140 := n0_; have BK141 := n1_; have HB := n2_; clear n0_ n1_ n2_; (try clear hb); (try clear hb2); (try clear hk); (try clear hi)) | ((with_reducible refine gate_callee (f := 6) rfl ?_); refine goesL_ (some 22) rfl rfl Tryd.func6 (by kernel_rfl) rfl #[.agg #[.int .i64 t146, .int .i64 t147, .int .i64 t148, .int .i64 t149, .int .i64 t150, .int .i64 t151, .int .i64 t152]] rfl (by (try simp only [List.map_toArray, List.map_cons, List.map_nil]); first | done | rfl | (simp only [List.length_drop, List.length_take]; rfl)) ?_; (with_reducible refine (link_Line.calls kj2 t146 t147 t148 t149 t150 t151 t152 t153 _ (Go.Proofs.YthljanmfanppdaaDoor.Lw.Tab.below HTAB_.out (by repeat (first | (with_reducible first | exact HB.out | apply below_alloc | apply pw_below_drewN | apply below_drew1) | exact HB.out))) A26.out).mono ?_); rintro e w30 ⟨rfl, hb⟩; refine ⟨_, rfl, ?_⟩; have n0_ := Aside0.mk (blk_below (g := gb140) (o := .cells #[.int .i64 a0_0, .int .i64 a0_1, .int .i64 a0_2, .int .i64 a0_3, .int .i64 a0_4, .int .i64 a0_5, .int .i64 a0_6] 23 (0, 0)) (by (with_reducible repeat (first | refine blk_drewN ?_ _ | refine blk_drew ?_ | refine blk_alloc ?_ _)); exact BK140.out) hb); have n1_ := Aside0.mk (blk_below (g := gb141) (o := .cells #[.int .i64 a1_0, .int .i64 a1_1, .int .i64 a1_2, .int .i64 a1_3, .int .i64 a1_4, .int .i64 a1_5, .int .i64 a1_6] 23 (0, 0)) (by (with_reducible repeat (first | refine blk_drewN ?_ _ | refine blk_drew ?_ | refine blk_alloc ?_ _)); exact BK141.out) hb); have n2_ := Aside0.mk (below_step (by repeat (first | (with_reducible first | exact HB.out | apply below_alloc | apply pw_below_drewN | apply below_drew1 | refine below_set ?_ GE140.out | refine below_set ?_ GE141.out) | exact HB.out)) hb); clear BK140; clear BK141; clear HB; have BK140 := n0_; have BK141 := n1_; have HB := n2_; clear n0_ n1_ n2_; (try clear hb); (try clear hb2); (try clear hk); (try clear hi)))
    go_loopg [25] kj2 (fun kq v25 w' => ∃ (x25_2 : Int), v25 = .int .i64 x25_2 ∧ Aside0 (knelllaw24_LinkWords.l0 kq t153 (t153.size : Int) x25_2 a0_0 a0_1 a0_2 a0_3 a0_4 a0_5 a0_6 a1_0 a1_1 a1_2 a1_3 a1_4 a1_5 a1_6 = some r) ∧ Aside0 (kq ≤ kj2) ∧ Aside0 (w'.heap[gb140]? = some (.cells #[.int .i64 a0_0, .int .i64 a0_1, .int .i64 a0_2, .int .i64 a0_3, .int .i64 a0_4, .int .i64 a0_5, .int .i64 a0_6] 23 (0, 0))) ∧ Aside0 (w'.heap[gb141]? = some (.cells #[.int .i64 a1_0, .int .i64 a1_1, .int .i64 a1_2, .int .i64 a1_3, .int .i64 a1_4, .int .i64 a1_5, .int .i64 a1_6] 23 (0, 0))) ∧ Aside0 (Below w.heap.size w w'))
    case atStart => exact ⟨(0), (by first | rfl | (simp; done) | (simp [*]; done)), H', ⟨Nat.le_refl _⟩, ⟨by (with_reducible repeat (first | refine blk_drewN ?_ _ | refine blk_drew ?_ | refine blk_alloc ?_ _)); exact BK140.out⟩, ⟨by (with_reducible repeat (first | refine blk_drewN ?_ _ | refine blk_drew ?_ | refine blk_alloc ?_ _)); exact BK141.out⟩, ⟨by repeat (first | (with_reducible first | exact HB.out | apply below_alloc | apply pw_below_drewN | apply below_drew1 | refine below_set ?_ GE140.out | refine below_set ?_ GE141.out) | exact HB.out)⟩⟩
    case round =>
     clear H'
     try clear c1
     try clear c2
     try clear p2
     try clear c3
     try clear c4
     try clear c6
     try clear c7
     try clear c9
     try clear c12
     try clear c18
     try clear c22
     try clear c27
     try clear hcz13_0
     try clear hcz13_1
     try clear hcz13_2
     try clear hcz13_3
     try clear hcz13_4
     try clear hcz13_5
     try clear hcz13_6
     try clear hcz15_0
     try clear hcz15_1
     try clear hcz15_2
     try clear hcz15_3
     try clear hcz15_4
     try clear hcz15_5
     try clear hcz15_6
     try clear hcz19_0
     try clear hcz19_1
     try clear hcz19_2
     try clear hcz19_3
     try clear hcz19_4
     try clear hcz19_5
     try clear hcz19_6
     try clear hcz28_0
     try clear hcz28_1
     try clear hcz28_2
     try clear hcz28_3
     try clear hcz28_4
     try clear hcz28_5
     try clear hcz28_6
     try clear hfz13_0
     try clear hfz13_1
     try clear hfz13_2
     try clear hfz13_3
     try clear hfz13_4
     try clear hfz13_5
     try clear hfz13_6
     try clear hfz15_0
     try clear hfz15_1
     try clear hfz15_2
     try clear hfz15_3
     try clear hfz15_4
     try clear hfz15_5
     try clear hfz15_6
     try clear hfz19_0
     try clear hfz19_1
     try clear hfz19_2
     try clear hfz19_3
     try clear hfz19_4
     try clear hfz19_5
     try clear hfz19_6
     try clear hfz28_0
     try clear hfz28_1
     try clear hfz28_2
     try clear hfz28_3
     try clear hfz28_4
     try clear hfz28_5
     try clear hfz28_6
     try clear p2
     obtain ⟨x25_2, rfl, HA, HK2, BK140, BK141, HB⟩ := hrel
     cases gk with
     | zero => exact absurd HA.out (by simp [knelllaw24_LinkWords.l0])
     | succ k2 =>
      have H := HA.out
      clear HA
      simp only [knelllaw24_LinkWords.l0] at H
      by_cases c31 : x25_2 < (t153.size : Int)
      ·rw [if_pos c31] at H
       have c31b0 : decide (x25_2 < (t153.size : Int)) = true := decide_eq_true c31
       clear c31
       by_cases c32 : 0 ≤ x25_2
       ·rw [if_pos c32] at H
        have c32b0 : decide (0 ≤ x25_2) = true := decide_eq_true c32
        clear c32
        by_cases c33 : x25_2 < (t153.size : Int)
        ·rw [if_pos c33] at H
         have c33b0 : decide (x25_2 < (t153.size : Int)) = true := decide_eq_true c33
         clear c33
         by_cases c35 : (bt t153 x25_2) = 10
         ·rw [if_pos c35] at H
          have c35b0 : ((bt t153 x25_2) == 10) = true := beq_iff_eq.mpr c35
          have c35b1 : ((bt t153 x25_2) != 10) = false := bne_eq_false_iff_eq.mpr c35
          clear c35
          obtain rfl := Option.some.inj H
          have p34 : 0 ≤ (x25_2 : Int) := of_decide_eq_true (by first | (with_reducible assumption) | assumption)
          have q34 : x25_2 < (t153.size : Int) := of_decide_eq_true (by first | (with_reducible assumption) | assumption)
          have hx34 := bt_at t153 x25_2
          replace p34 := eq_true p34
          replace q34 := eq_true q34
          go_wp2
          go_ret
          exact ⟨by first | rfl | (simp [errW_none, errW_some] <;> rfl) | (simp [*, errW_none, errW_some] <;> rfl), by repeat (first | (with_reducible first | exact HB.out | apply below_alloc | apply pw_below_drewN | apply below_drew1 | refine below_set ?_ GE140.out | refine below_set ?_ GE141.out) | exact HB.out)⟩
         ·rw [if_neg c35] at H
          have c35b0 : ((bt t153 x25_2) == 10) = false := beq_eq_false_iff_ne.mpr c35
          have c35b1 : ((bt t153 x25_2) != 10) = true := bne_iff_ne.mpr c35
          by_cases c37 : (bt t153 x25_2) = 32
          ·rw [if_pos c37] at H
           have c37b0 : ((bt t153 x25_2) == 32) = true := beq_iff_eq.mpr c37
           have c37b1 : ((bt t153 x25_2) != 32) = false := bne_eq_false_iff_eq.mpr c37
           clear c37
           by_cases c38 : x25_2 = 0
           ·rw [if_pos c38] at H
            have c38b0 : (x25_2 == 0) = true := beq_iff_eq.mpr c38
            have c38b1 : (x25_2 != 0) = false := bne_eq_false_iff_eq.mpr c38
            clear c38
            obtain rfl := Option.some.inj H
            have p34 : 0 ≤ (x25_2 : Int) := of_decide_eq_true (by first | (with_reducible assumption) | assumption)
            have q34 : x25_2 < (t153.size : Int) := of_decide_eq_true (by first | (with_reducible assumption) | assumption)
            have hx34 := bt_at t153 x25_2
            replace p34 := eq_true p34
            replace q34 := eq_true q34
            have p36 : 0 ≤ (x25_2 : Int) := of_decide_eq_true (by first | (with_reducible assumption) | assumption)
            have q36 : x25_2 < (t153.size : Int) := of_decide_eq_true (by first | (with_reducible assumption) | assumption)
            have hx36 := bt_at t153 x25_2
            replace p36 := eq_true p36
            replace q36 := eq_true q36
            go_wp2
            go_ret
            exact ⟨by first | rfl | (simp [errW_none, errW_some] <;> rfl) | (simp [*, errW_none, errW_some] <;> rfl), by repeat (first | (with_reducible first | exact HB.out | apply below_alloc | apply pw_below_drewN | apply below_drew1 | refine below_set ?_ GE140.out | refine below_set ?_ GE141.out) | exact HB.out)⟩
           ·rw [if_neg c38] at H
            have c38b0 : (x25_2 == 0) = false := beq_eq_false_iff_ne.mpr c38
            have c38b1 : (x25_2 != 0) = true := bne_iff_ne.mpr c38
            by_cases c39 : x25_2 = (wrap64 ((t153.size : Int) - 1))
            ·rw [if_pos c39] at H
             have c39b0 : (x25_2 == (wrap64 ((t153.size : Int) - 1))) = true := beq_iff_eq.mpr c39
             have c39b1 : (x25_2 != (wrap64 ((t153.size : Int) - 1))) = false := bne_eq_false_iff_eq.mpr c39
             clear c39
             obtain rfl := Option.some.inj H
             have p34 : 0 ≤ (x25_2 : Int) := of_decide_eq_true (by first | (with_reducible assumption) | assumption)
             have q34 : x25_2 < (t153.size : Int) := of_decide_eq_true (by first | (with_reducible assumption) | assumption)
             have hx34 := bt_at t153 x25_2
             replace p34 := eq_true p34
             replace q34 := eq_true q34
             have p36 : 0 ≤ (x25_2 : Int) := of_decide_eq_true (by first | (with_reducible assumption) | assumption)
             have q36 : x25_2 < (t153.size : Int) := of_decide_eq_true (by first | (with_reducible assumption) | assumption)
             have hx36 := bt_at t153 x25_2
             replace p36 := eq_true p36
             replace q36 := eq_true q36
             go_wp2
             go_ret
             exact ⟨by first | rfl | (simp [errW_none, errW_some] <;> rfl) | (simp [*, errW_none, errW_some] <;> rfl), by repeat (first | (with_reducible first | exact HB.out | apply below_alloc | apply pw_below_drewN | apply below_drew1 | refine below_set ?_ GE140.out | refine below_set ?_ GE141.out) | exact HB.out)⟩
            ·rw [if_neg c39] at H
             have c39b0 : (x25_2 == (wrap64 ((t153.size : Int) - 1))) = false := beq_eq_false_iff_ne.mpr c39
             have c39b1 : (x25_2 != (wrap64 ((t153.size : Int) - 1))) = true := bne_iff_ne.mpr c39
             obtain ⟨ji40, hji40⟩ : ∃ j_ : Int, (wrap64 (x25_2 + 1)) = j_ := ⟨_, rfl⟩
             replace H : (if 0 ≤ (ji40) then (if (ji40) < (t153.size : Int) then (if (bt t153 (ji40)) = 32 then (some false) else (knelllaw24_LinkWords.l0 k2 t153 (t153.size : Int) ji40 a0_0 a0_1 a0_2 a0_3 a0_4 a0_5 a0_6 a1_0 a1_1 a1_2 a1_3 a1_4 a1_5 a1_6)) else (none)) else (none)) = some r := by first | (rw [hji40] at H; exact H) | (simp only [hji40] at H ⊢; exact H)
             have hji40w : (IntKind.i64.wrap (x25_2 + 1)) = ji40 := (i64_w _).trans hji40
             by_cases c41 : 0 ≤ (ji40)
             ·rw [if_pos c41] at H
              have c41b0 : decide (0 ≤ (ji40)) = true := decide_eq_true c41
              clear c41
              by_cases c42 : (ji40) < (t153.size : Int)
              ·rw [if_pos c42] at H
               have c42b0 : decide ((ji40) < (t153.size : Int)) = true := decide_eq_true c42
               clear c42
               by_cases c44 : (bt t153 (ji40)) = 32
               ·rw [if_pos c44] at H
                have c44b0 : ((bt t153 (ji40)) == 32) = true := beq_iff_eq.mpr c44
                have c44b1 : ((bt t153 (ji40)) != 32) = false := bne_eq_false_iff_eq.mpr c44
                clear c44
                obtain rfl := Option.some.inj H
                have p34 : 0 ≤ (x25_2 : Int) := of_decide_eq_true (by first | (with_reducible assumption) | assumption)
                have q34 : x25_2 < (t153.size : Int) := of_decide_eq_true (by first | (with_reducible assumption) | assumption)
                have hx34 := bt_at t153 x25_2
                replace p34 := eq_true p34
                replace q34 := eq_true q34
                have p36 : 0 ≤ (x25_2 : Int) := of_decide_eq_true (by first | (with_reducible assumption) | assumption)
                have q36 : x25_2 < (t153.size : Int) := of_decide_eq_true (by first | (with_reducible assumption) | assumption)
                have hx36 := bt_at t153 x25_2
                replace p36 := eq_true p36
                replace q36 := eq_true q36
                have p43 : 0 ≤ ((ji40) : Int) := of_decide_eq_true (by first | (with_reducible assumption) | assumption)
                have q43 : (ji40) < (t153.size : Int) := of_decide_eq_true (by first | (with_reducible assumption) | assumption)
                have hx43 := bt_at t153 (ji40)
                replace p43 := eq_true p43
                replace q43 := eq_true q43
                go_wp2
                go_ret
                exact ⟨by first | rfl | (simp [errW_none, errW_some] <;> rfl) | (simp only [← hji40]; first | rfl | (simp [errW_none, errW_some] <;> rfl)) | (simp [*, errW_none, errW_some] <;> rfl), by repeat (first | (with_reducible first | exact HB.out | apply below_alloc | apply pw_below_drewN | apply below_drew1 | refine below_set ?_ GE140.out | refine below_set ?_ GE141.out) | exact HB.out)⟩
               ·rw [if_neg c44] at H
                have c44b0 : ((bt t153 (ji40)) == 32) = false := beq_eq_false_iff_ne.mpr c44
                have c44b1 : ((bt t153 (ji40)) != 32) = true := bne_iff_ne.mpr c44
                have H' := Aside0.mk H
                clear H
                have p34 : 0 ≤ (x25_2 : Int) := of_decide_eq_true (by first | (with_reducible assumption) | assumption)
                have q34 : x25_2 < (t153.size : Int) := of_decide_eq_true (by first | (with_reducible assumption) | assumption)
                have hx34 := bt_at t153 x25_2
                replace p34 := eq_true p34
                replace q34 := eq_true q34
                have p36 : 0 ≤ (x25_2 : Int) := of_decide_eq_true (by first | (with_reducible assumption) | assumption)
                have q36 : x25_2 < (t153.size : Int) := of_decide_eq_true (by first | (with_reducible assumption) | assumption)
                have hx36 := bt_at t153 x25_2
                replace p36 := eq_true p36
                replace q36 := eq_true q36
                have p43 : 0 ≤ ((ji40) : Int) := of_decide_eq_true (by first | (with_reducible assumption) | assumption)
                have q43 : (ji40) < (t153.size : Int) := of_decide_eq_true (by first | (with_reducible assumption) | assumption)
                have hx43 := bt_at t153 (ji40)
                replace p43 := eq_true p43
                replace q43 := eq_true q43
                go_wp2
                go_roundg k2
                case measure => have := HJ2.out; have := HK2.out; omega
                case rel => exact ⟨(ji40), (by first | rfl | (simp; done) | (simp only [← hji40] <;> (first | rfl | simp)) | (simp [*]; done)), H', ⟨by have := HJ2.out; have := HK2.out; omega⟩, ⟨by (with_reducible repeat (first | refine blk_drewN ?_ _ | refine blk_drew ?_ | refine blk_alloc ?_ _)); exact BK140.out⟩, ⟨by (with_reducible repeat (first | refine blk_drewN ?_ _ | refine blk_drew ?_ | refine blk_alloc ?_ _)); exact BK141.out⟩, ⟨by repeat (first | (with_reducible first | exact HB.out | apply below_alloc | apply pw_below_drewN | apply below_drew1 | refine below_set ?_ GE140.out | refine below_set ?_ GE141.out) | exact HB.out)⟩⟩
              ·rw [if_neg c42] at H
               exact absurd H (by simp)
             ·rw [if_neg c41] at H
              exact absurd H (by simp)
          ·rw [if_neg c37] at H
           have c37b0 : ((bt t153 x25_2) == 32) = false := beq_eq_false_iff_ne.mpr c37
           have c37b1 : ((bt t153 x25_2) != 32) = true := bne_iff_ne.mpr c37
           have H' := Aside0.mk H
           clear H
           have p34 : 0 ≤ (x25_2 : Int) := of_decide_eq_true (by first | (with_reducible assumption) | assumption)
           have q34 : x25_2 < (t153.size : Int) := of_decide_eq_true (by first | (with_reducible assumption) | assumption)
           have hx34 := bt_at t153 x25_2
           replace p34 := eq_true p34
           replace q34 := eq_true q34
           have p36 : 0 ≤ (x25_2 : Int) := of_decide_eq_true (by first | (with_reducible assumption) | assumption)
           have q36 : x25_2 < (t153.size : Int) := of_decide_eq_true (by first | (with_reducible assumption) | assumption)
           have hx36 := bt_at t153 x25_2
           replace p36 := eq_true p36
           replace q36 := eq_true q36
           go_wp2
           go_roundg k2
           case measure => have := HJ2.out; have := HK2.out; omega
           case rel => exact ⟨(wrap64 (x25_2 + 1)), (by first | rfl | (simp; done) | (simp [*]; done)), H', ⟨by have := HJ2.out; have := HK2.out; omega⟩, ⟨by (with_reducible repeat (first | refine blk_drewN ?_ _ | refine blk_drew ?_ | refine blk_alloc ?_ _)); exact BK140.out⟩, ⟨by (with_reducible repeat (first | refine blk_drewN ?_ _ | refine blk_drew ?_ | refine blk_alloc ?_ _)); exact BK141.out⟩, ⟨by repeat (first | (with_reducible first | exact HB.out | apply below_alloc | apply pw_below_drewN | apply below_drew1 | refine below_set ?_ GE140.out | refine below_set ?_ GE141.out) | exact HB.out)⟩⟩
        ·rw [if_neg c33] at H
         exact absurd H (by simp)
       ·rw [if_neg c32] at H
        exact absurd H (by simp)
      ·rw [if_neg c31] at H
       have c31b0 : decide (x25_2 < (t153.size : Int)) = false := decide_eq_false c31
       clear c31
       by_cases c45 : t153.toList = ([] : List UInt8)
       ·rw [if_pos c45] at H
        have c45b0 : (t153.toList == ([] : List UInt8)) = true := beq_iff_eq.mpr c45
        have c45b1 : (t153.toList != ([] : List UInt8)) = false := bne_eq_false_iff_eq.mpr c45
        clear c45
        obtain rfl := Option.some.inj H
        try go_wp2
        have n0_ := Aside0.mk (blk_drew BK140.out)
        have n1_ := Aside0.mk (blk_drew BK141.out)
        have n2_ := Aside0.mk (below_drew1 HB.out)
        clear BK140
        clear BK141
        clear HB
        have BK140 := n0_
        have BK141 := n1_
        have HB := n2_
        clear n0_ n1_ n2_
        refine start_ (n := 14) (S := fun w' => True) (ds := []) #[ff,ff,ff,ff,ff,ff,ff,ff,ff,ff,ff,ff,ff,ff] (by kernel_rfl) rfl rfl trivial (fun hHeld => ?_); refine with_tabW knelllaw24_LinkWords.tab10 knelllaw24_LinkWords.bits10 (fun HT_ HW_ => ?_)
        generalize wr.drew = w46 at BK140 BK141 HB hHeld ⊢
        refine pure_ (i := 0) (N := some 57) (v := ?_) (a' := ?_) #[tt,ff,ff,ff,ff,ff,ff,ff,ff,ff,ff,ff,ff,ff] rfl rfl (any_of HT_.out (by kernel_rfl)) (fun _ _ _ h => h) (Or.inl ⟨by rfl, ?_⟩) ?_ ?_
        rotate_left
        ·intro w'
         go_simp
         with_reducible rfl
        rotate_left
        ·simp only [Act.put, sQ0, sQ1, sQ2, i64_w]
         rfl
        refine pure_ (i := 1) (N := some 58) (v := ?_) (a' := ?_) #[tt,tt,ff,ff,ff,ff,ff,ff,ff,ff,ff,ff,ff,ff] rfl rfl (any_of HT_.out (by kernel_rfl)) (fun _ _ _ h => h) (Or.inl ⟨by rfl, ?_⟩) ?_ ?_
        rotate_left
        ·intro w'
         go_simp
         with_reducible rfl
        rotate_left
        ·simp only [Act.put, sQ0, sQ1, sQ2, i64_w]
         rfl
        refine pure_ (i := 2) (N := some 59) (v := ?_) (a' := ?_) #[tt,tt,tt,ff,ff,ff,ff,ff,ff,ff,ff,ff,ff,ff] rfl rfl (any_of HT_.out (by kernel_rfl)) (fun _ _ _ h => h) (Or.inl ⟨by rfl, ?_⟩) ?_ ?_
        rotate_left
        ·intro w'
         go_simp
         with_reducible rfl
        rotate_left
        ·simp only [Act.put, sQ0, sQ1, sQ2, i64_w]
         rfl
        refine pure_ (i := 3) (N := some 60) (v := undef) (a' := ?_) #[tt,tt,tt,tt,ff,ff,ff,ff,ff,ff,ff,ff,ff,ff] rfl rfl (any_of HT_.out (by kernel_rfl)) (fun _ _ _ h => h) (Or.inr ⟨by rfl, rfl⟩) ?_ ?_
        rotate_left
        ·simp only [Act.put, sQ0, sQ1, sQ2, i64_w]
         rfl
        refine pure_ (i := 4) (N := some 61) (v := undef) (a' := ?_) #[tt,tt,tt,tt,tt,ff,ff,ff,ff,ff,ff,ff,ff,ff] rfl rfl (any_of HT_.out (by kernel_rfl)) (fun _ _ _ h => h) (Or.inr ⟨by rfl, rfl⟩) ?_ ?_
        rotate_left
        ·simp only [Act.put, sQ0, sQ1, sQ2, i64_w]
         rfl
        refine pure_ (i := 5) (N := some 62) (v := undef) (a' := ?_) #[tt,tt,tt,tt,tt,tt,ff,ff,ff,ff,ff,ff,ff,ff] rfl rfl (any_of HT_.out (by kernel_rfl)) (fun _ _ _ h => h) (Or.inr ⟨by rfl, rfl⟩) ?_ ?_
        rotate_left
        ·simp only [Act.put, sQ0, sQ1, sQ2, i64_w]
         rfl
        refine pure_ (i := 6) (N := some 63) (v := undef) (a' := ?_) #[tt,tt,tt,tt,tt,tt,tt,ff,ff,ff,ff,ff,ff,ff] rfl rfl (any_of HT_.out (by kernel_rfl)) (fun _ _ _ h => h) (Or.inr ⟨by rfl, rfl⟩) ?_ ?_
        rotate_left
        ·simp only [Act.put, sQ0, sQ1, sQ2, i64_w]
         rfl
        refine pure_ (i := 7) (N := some 64) (v := undef) (a' := ?_) #[tt,tt,tt,tt,tt,tt,tt,tt,ff,ff,ff,ff,ff,ff] rfl rfl (any_of HT_.out (by kernel_rfl)) (fun _ _ _ h => h) (Or.inr ⟨by rfl, rfl⟩) ?_ ?_
        rotate_left
        ·simp only [Act.put, sQ0, sQ1, sQ2, i64_w]
         rfl
        refine pure_ (i := 8) (N := some 65) (v := undef) (a' := ?_) #[tt,tt,tt,tt,tt,tt,tt,tt,tt,ff,ff,ff,ff,ff] rfl rfl (any_of HT_.out (by kernel_rfl)) (fun _ _ _ h => h) (Or.inr ⟨by rfl, rfl⟩) ?_ ?_
        rotate_left
        ·simp only [Act.put, sQ0, sQ1, sQ2, i64_w]
         rfl
        refine pure_ (i := 9) (N := some 66) (v := undef) (a' := ?_) #[tt,tt,tt,tt,tt,tt,tt,tt,tt,tt,ff,ff,ff,ff] rfl rfl (any_of HT_.out (by kernel_rfl)) (fun _ _ _ h => h) (Or.inr ⟨by rfl, rfl⟩) ?_ ?_
        rotate_left
        ·simp only [Act.put, sQ0, sQ1, sQ2, i64_w]
         rfl
        refine pure_ (i := 10) (N := some 67) (v := undef) (a' := ?_) #[tt,tt,tt,tt,tt,tt,tt,tt,tt,tt,tt,ff,ff,ff] rfl rfl (any_of HT_.out (by kernel_rfl)) (fun _ _ _ h => h) (Or.inr ⟨by rfl, rfl⟩) ?_ ?_
        rotate_left
        ·simp only [Act.put, sQ0, sQ1, sQ2, i64_w]
         rfl
        refine pure_ (i := 11) (N := some 68) (v := undef) (a' := ?_) #[tt,tt,tt,tt,tt,tt,tt,tt,tt,tt,tt,tt,ff,ff] rfl rfl (any_of HT_.out (by kernel_rfl)) (fun _ _ _ h => h) (Or.inr ⟨by rfl, rfl⟩) ?_ ?_
        rotate_left
        ·simp only [Act.put, sQ0, sQ1, sQ2, i64_w]
         rfl
        refine pure_ (i := 12) (N := some 69) (v := ?_) (a' := ?_) #[tt,tt,tt,tt,tt,tt,tt,tt,tt,tt,tt,tt,tt,ff] rfl rfl (any_of HT_.out (by kernel_rfl)) (fun _ _ _ h => h) (Or.inl ⟨by rfl, ?_⟩) ?_ ?_
        rotate_left
        ·intro w'
         go_simp
         with_reducible rfl
        rotate_left
        ·simp only [Act.put, sQ0, sQ1, sQ2, i64_w]
         rfl
        refine pure_ (i := 13) (N := some 4) (v := ?_) (a' := ?_) #[tt,tt,tt,tt,tt,tt,tt,tt,tt,tt,tt,tt,tt,tt] rfl rfl (any_of HT_.out (by kernel_rfl)) (fun _ _ _ h => h) (Or.inl ⟨by rfl, ?_⟩) ?_ ?_
        rotate_left
        ·intro w'
         go_simp
         with_reducible rfl
        rotate_left
        ·simp only [Act.put, sQ0, sQ1, sQ2, i64_w]
         rfl
        refine done_ (done_of HT_.out (by kernel_rfl)) ?_
        try go_wp2
        go_ret
        exact ⟨by first | rfl | (simp [errW_none, errW_some] <;> rfl) | (simp [*, errW_none, errW_some] <;> rfl), by repeat (first | (with_reducible first | exact HB.out | apply below_alloc | apply pw_below_drewN | apply below_drew1 | refine below_set ?_ GE140.out | refine below_set ?_ GE141.out) | exact HB.out)⟩
       ·rw [if_neg c45] at H
        have c45b0 : (t153.toList == ([] : List UInt8)) = false := beq_eq_false_iff_ne.mpr c45
        have c45b1 : (t153.toList != ([] : List UInt8)) = true := bne_iff_ne.mpr c45
        replace H := Option.bind_eq_some_iff.mp H
        obtain ⟨⟨t154, t155, t156, t157, t158, t159, t160⟩, A470, H⟩ := H
        replace H : ((link_Line.f k2 t154 t155 t156 t157 t158 t159 t160).bind fun t161 => (some ((t153.toList == t161.toList) == (a0_0 == a1_0 && (a0_1 == a1_1 && (a0_2 == a1_2 && (a0_3 == a1_3 && (a0_4 == a1_4 && (a0_5 == a1_5 && (a0_6 == a1_6)))))))))) = some r := H
        have A47 := Aside0.mk A470
        clear A470
        replace H := Option.bind_eq_some_iff.mp H
        obtain ⟨t161, A480, H⟩ := H
        replace H : (some ((t153.toList == t161.toList) == (a0_0 == a1_0 && (a0_1 == a1_1 && (a0_2 == a1_2 && (a0_3 == a1_3 && (a0_4 == a1_4 && (a0_5 == a1_5 && (a0_6 == a1_6))))))))) = some r := H
        have A48 := Aside0.mk A480
        clear A480
        obtain rfl := Option.some.inj H
        try go_wp2
        have n0_ := Aside0.mk (blk_drew BK140.out)
        have n1_ := Aside0.mk (blk_drew BK141.out)
        have n2_ := Aside0.mk (below_drew1 HB.out)
        clear BK140
        clear BK141
        clear HB
        have BK140 := n0_
        have BK141 := n1_
        have HB := n2_
        clear n0_ n1_ n2_
        refine start_ (n := 14) (S := fun w' => w'.cell? ⟨gb141, 0, none⟩ = some (.int .i64 a1_0) ∧ w'.cell? ⟨gb141, 1, none⟩ = some (.int .i64 a1_1) ∧ w'.cell? ⟨gb141, 2, none⟩ = some (.int .i64 a1_2) ∧ w'.cell? ⟨gb141, 3, none⟩ = some (.int .i64 a1_3) ∧ w'.cell? ⟨gb141, 4, none⟩ = some (.int .i64 a1_4) ∧ w'.cell? ⟨gb141, 5, none⟩ = some (.int .i64 a1_5) ∧ w'.cell? ⟨gb141, 6, none⟩ = some (.int .i64 a1_6) ∧ w'.cell? ⟨gb140, 0, none⟩ = some (.int .i64 a0_0) ∧ w'.cell? ⟨gb140, 1, none⟩ = some (.int .i64 a0_1) ∧ w'.cell? ⟨gb140, 2, none⟩ = some (.int .i64 a0_2) ∧ w'.cell? ⟨gb140, 3, none⟩ = some (.int .i64 a0_3) ∧ w'.cell? ⟨gb140, 4, none⟩ = some (.int .i64 a0_4) ∧ w'.cell? ⟨gb140, 5, none⟩ = some (.int .i64 a0_5) ∧ w'.cell? ⟨gb140, 6, none⟩ = some (.int .i64 a0_6)) (ds := []) #[ff,ff,ff,ff,ff,ff,ff,ff,ff,ff,ff,ff,ff,ff] (by kernel_rfl) rfl rfl ⟨(blk_cell BK141.out 0).trans rfl, (blk_cell BK141.out 1).trans rfl, (blk_cell BK141.out 2).trans rfl, (blk_cell BK141.out 3).trans rfl, (blk_cell BK141.out 4).trans rfl, (blk_cell BK141.out 5).trans rfl, (blk_cell BK141.out 6).trans rfl, (blk_cell BK140.out 0).trans rfl, (blk_cell BK140.out 1).trans rfl, (blk_cell BK140.out 2).trans rfl, (blk_cell BK140.out 3).trans rfl, (blk_cell BK140.out 4).trans rfl, (blk_cell BK140.out 5).trans rfl, (blk_cell BK140.out 6).trans rfl⟩ (fun hHeld => ?_); refine with_tabW knelllaw24_LinkWords.tab10 knelllaw24_LinkWords.bits10 (fun HT_ HW_ => ?_)
        generalize wr.drew = w49 at BK140 BK141 HB hHeld ⊢
        refine pure_ (i := 0) (N := some 57) (v := ?_) (a' := ?_) #[tt,ff,ff,ff,ff,ff,ff,ff,ff,ff,ff,ff,ff,ff] rfl rfl (any_of HT_.out (by kernel_rfl)) (fun _ _ _ h => h) (Or.inl ⟨by rfl, ?_⟩) ?_ ?_
        rotate_left
        ·intro w'
         go_simp
         with_reducible rfl
        rotate_left
        ·simp only [Act.put, sQ0, sQ1, sQ2, i64_w]
         rfl
        refine pure_ (i := 1) (N := some 58) (v := ?_) (a' := ?_) #[tt,tt,ff,ff,ff,ff,ff,ff,ff,ff,ff,ff,ff,ff] rfl rfl (any_of HT_.out (by kernel_rfl)) (fun _ _ _ h => h) (Or.inl ⟨by rfl, ?_⟩) ?_ ?_
        rotate_left
        ·intro w'
         go_simp
         with_reducible rfl
        rotate_left
        ·simp only [Act.put, sQ0, sQ1, sQ2, i64_w]
         rfl
        refine pure_ (i := 2) (N := some 59) (v := ?_) (a' := ?_) #[tt,tt,tt,ff,ff,ff,ff,ff,ff,ff,ff,ff,ff,ff] rfl rfl (any_of HT_.out (by kernel_rfl)) (fun _ _ _ h => h) (Or.inl ⟨by rfl, ?_⟩) ?_ ?_
        rotate_left
        ·intro w'
         go_simp
         with_reducible rfl
        rotate_left
        ·simp only [Act.put, sQ0, sQ1, sQ2, i64_w]
         rfl
        refine pure_ (i := 3) (N := some 60) (v := ?_) (a' := ?_) #[tt,tt,tt,tt,ff,ff,ff,ff,ff,ff,ff,ff,ff,ff] rfl rfl (any_of HT_.out (by kernel_rfl)) (fun _ _ _ h => h) (Or.inl ⟨by rfl, ?_⟩) ?_ ?_
        rotate_left
        ·intro w'
         go_simp
         with_reducible rfl
        rotate_left
        ·simp only [Act.put, sQ0, sQ1, sQ2, i64_w]
         rfl
        refine take_ (i := 4) (N := some 61) (v := ?_) (a' := ?_) #[tt,tt,tt,tt,tt,ff,ff,ff,ff,ff,ff,ff,ff,ff] rfl rfl (take_ofW HT_.out HW_.out (by kernel_rfl)) (fun _ _ _ h => h) (Or.inl ⟨by rfl, ?_⟩) hHeld ?_ ?_
        rotate_left
        ·rintro w' ⟨s0, s1, s2, s3, s4, s5, s6, s7, s8, s9, s10, s11, s12, s13⟩
         go_simp
         with_reducible rfl
        rotate_left
        ·simp only [Act.put, sQ0, sQ1, sQ2, i64_w]
         rfl
        refine take_ (i := 8) (N := some 65) (v := ?_) (a' := ?_) #[tt,tt,tt,tt,tt,ff,ff,ff,tt,ff,ff,ff,ff,ff] rfl rfl (take_ofW HT_.out HW_.out (by kernel_rfl)) (fun _ _ _ h => h) (Or.inl ⟨by rfl, ?_⟩) hHeld ?_ ?_
        rotate_left
        ·rintro w' ⟨s0, s1, s2, s3, s4, s5, s6, s7, s8, s9, s10, s11, s12, s13⟩
         go_simp
         with_reducible rfl
        rotate_left
        ·simp only [Act.put, sQ0, sQ1, sQ2, i64_w]
         rfl
        refine take_ (i := 9) (N := some 66) (v := ?_) (a' := ?_) #[tt,tt,tt,tt,tt,ff,ff,ff,tt,tt,ff,ff,ff,ff] rfl rfl (take_ofW HT_.out HW_.out (by kernel_rfl)) (fun _ _ _ h => h) (Or.inl ⟨by rfl, ?_⟩) hHeld ?_ ?_
        rotate_left
        ·rintro w' ⟨s0, s1, s2, s3, s4, s5, s6, s7, s8, s9, s10, s11, s12, s13⟩
         go_simp
         with_reducible rfl
        rotate_left
        ·simp only [Act.put, sQ0, sQ1, sQ2, i64_w]
         rfl
        refine pure_ (i := 10) (N := some 67) (v := ?_) (a' := ?_) #[tt,tt,tt,tt,tt,ff,ff,ff,tt,tt,tt,ff,ff,ff] rfl rfl (any_of HT_.out (by kernel_rfl)) (fun _ _ _ h => h) (Or.inl ⟨by rfl, ?_⟩) ?_ ?_
        rotate_left
        ·intro w'
         go_simp
         with_reducible rfl
        rotate_left
        ·simp only [Act.put, sQ0, sQ1, sQ2, i64_w]
         rfl
        refine one_ (i := 5) (N := some 62) #[tt,tt,tt,tt,tt,tt,ff,ff,tt,tt,tt,ff,ff,ff] rfl rfl (one_of HT_.out (by kernel_rfl)) (by decide) (fun K hK => ?_)
        refine goes_ Tryd.func7 (by kernel_rfl) rfl #[.agg #[.int .i64 a1_0, .int .i64 a1_1, .int .i64 a1_2, .int .i64 a1_3, .int .i64 a1_4, .int .i64 a1_5, .int .i64 a1_6]] (by rfl) rfl rfl (by (try simp only [List.map_toArray, List.map_cons, List.map_nil]); first | done | rfl | (simp only [List.length_drop, List.length_take]; rfl)) ?_
        with_reducible refine (knelllaw24_Of.calls a1_0 a1_1 a1_2 a1_3 a1_4 a1_5 a1_6 t154 t155 t156 t157 t158 t159 t160 _ A47.out).mono ?_
        rintro e w50 ⟨rfl, hb⟩
        refine ⟨_, rfl, ?_⟩
        have n0_ := Aside0.mk (blk_below (g := gb140) (o := .cells #[.int .i64 a0_0, .int .i64 a0_1, .int .i64 a0_2, .int .i64 a0_3, .int .i64 a0_4, .int .i64 a0_5, .int .i64 a0_6] 23 (0, 0)) (by (with_reducible repeat (first | refine blk_drewN ?_ _ | refine blk_drew ?_ | refine blk_alloc ?_ _)); exact BK140.out) hb)
        have n1_ := Aside0.mk (blk_below (g := gb141) (o := .cells #[.int .i64 a1_0, .int .i64 a1_1, .int .i64 a1_2, .int .i64 a1_3, .int .i64 a1_4, .int .i64 a1_5, .int .i64 a1_6] 23 (0, 0)) (by (with_reducible repeat (first | refine blk_drewN ?_ _ | refine blk_drew ?_ | refine blk_alloc ?_ _)); exact BK141.out) hb)
        have n2_ := Aside0.mk (below_step (by repeat (first | (with_reducible first | exact HB.out | apply below_alloc | apply pw_below_drewN | apply below_drew1 | refine below_set ?_ GE140.out | refine below_set ?_ GE141.out) | exact HB.out)) hb)
        clear BK140
        clear BK141
        clear HB
        have BK140 := n0_
        have BK141 := n1_
        have HB := n2_
        clear n0_ n1_ n2_
        (try clear hb)
        (try clear hb2)
        (try clear hk)
        (try clear hi)
        refine hK.out _ _ ⟨(blk_cell BK141.out 0).trans rfl, (blk_cell BK141.out 1).trans rfl, (blk_cell BK141.out 2).trans rfl, (blk_cell BK141.out 3).trans rfl, (blk_cell BK141.out 4).trans rfl, (blk_cell BK141.out 5).trans rfl, (blk_cell BK141.out 6).trans rfl, (blk_cell BK140.out 0).trans rfl, (blk_cell BK140.out 1).trans rfl, (blk_cell BK140.out 2).trans rfl, (blk_cell BK140.out 3).trans rfl, (blk_cell BK140.out 4).trans rfl, (blk_cell BK140.out 5).trans rfl, (blk_cell BK140.out 6).trans rfl⟩ (fun hHeld => ?_)
        clear hK K
        refine norm_ (a' := ?_) ?_ ?_
        rotate_left
        ·show Act.put _ (some 62) _ = _
         simp only [Act.put, sQ0, sQ1, sQ2, i64_w]
         rfl
        refine one_ (i := 6) (N := some 63) #[tt,tt,tt,tt,tt,tt,tt,ff,tt,tt,tt,ff,ff,ff] rfl rfl (one_of HT_.out (by kernel_rfl)) (by decide) (fun K hK => ?_)
        refine goes_ Tryd.func6 (by kernel_rfl) rfl #[.agg #[.int .i64 t154, .int .i64 t155, .int .i64 t156, .int .i64 t157, .int .i64 t158, .int .i64 t159, .int .i64 t160]] (by rfl) rfl rfl (by (try simp only [List.map_toArray, List.map_cons, List.map_nil]); first | done | rfl | (simp only [List.length_drop, List.length_take]; rfl)) ?_
        with_reducible refine (link_Line.calls k2 t154 t155 t156 t157 t158 t159 t160 t161 _ (Go.Proofs.YthljanmfanppdaaDoor.Lw.Tab.below HTAB_.out (by repeat (first | (with_reducible first | exact HB.out | apply below_alloc | apply pw_below_drewN | apply below_drew1) | exact HB.out))) A48.out).mono ?_
        rintro e w51 ⟨rfl, hb⟩
        refine ⟨_, rfl, ?_⟩
        have n0_ := Aside0.mk (blk_below (g := gb140) (o := .cells #[.int .i64 a0_0, .int .i64 a0_1, .int .i64 a0_2, .int .i64 a0_3, .int .i64 a0_4, .int .i64 a0_5, .int .i64 a0_6] 23 (0, 0)) (by (with_reducible repeat (first | refine blk_drewN ?_ _ | refine blk_drew ?_ | refine blk_alloc ?_ _)); exact BK140.out) hb)
        have n1_ := Aside0.mk (blk_below (g := gb141) (o := .cells #[.int .i64 a1_0, .int .i64 a1_1, .int .i64 a1_2, .int .i64 a1_3, .int .i64 a1_4, .int .i64 a1_5, .int .i64 a1_6] 23 (0, 0)) (by (with_reducible repeat (first | refine blk_drewN ?_ _ | refine blk_drew ?_ | refine blk_alloc ?_ _)); exact BK141.out) hb)
        have n2_ := Aside0.mk (below_step (by repeat (first | (with_reducible first | exact HB.out | apply below_alloc | apply pw_below_drewN | apply below_drew1 | refine below_set ?_ GE140.out | refine below_set ?_ GE141.out) | exact HB.out)) hb)
        clear BK140
        clear BK141
        clear HB
        have BK140 := n0_
        have BK141 := n1_
        have HB := n2_
        clear n0_ n1_ n2_
        (try clear hb)
        (try clear hb2)
        (try clear hk)
        (try clear hi)
        refine hK.out _ _ ⟨(blk_cell BK141.out 0).trans rfl, (blk_cell BK141.out 1).trans rfl, (blk_cell BK141.out 2).trans rfl, (blk_cell BK141.out 3).trans rfl, (blk_cell BK141.out 4).trans rfl, (blk_cell BK141.out 5).trans rfl, (blk_cell BK141.out 6).trans rfl, (blk_cell BK140.out 0).trans rfl, (blk_cell BK140.out 1).trans rfl, (blk_cell BK140.out 2).trans rfl, (blk_cell BK140.out 3).trans rfl, (blk_cell BK140.out 4).trans rfl, (blk_cell BK140.out 5).trans rfl, (blk_cell BK140.out 6).trans rfl⟩ (fun hHeld => ?_)
        clear hK K
        refine norm_ (a' := ?_) ?_ ?_
        rotate_left
        ·show Act.put _ (some 63) _ = _
         simp only [Act.put, sQ0, sQ1, sQ2, i64_w]
         rfl
        refine pure_ (i := 7) (N := some 64) (v := ?_) (a' := ?_) #[tt,tt,tt,tt,tt,tt,tt,tt,tt,tt,tt,ff,ff,ff] rfl rfl (any_of HT_.out (by kernel_rfl)) (fun _ _ _ h => h) (Or.inl ⟨by rfl, ?_⟩) ?_ ?_
        rotate_left
        ·intro w'
         go_simp
         with_reducible rfl
        rotate_left
        ·simp only [Act.put, sQ0, sQ1, sQ2, i64_w]
         rfl
        refine pure_ (i := 11) (N := some 68) (v := ?_) (a' := ?_) #[tt,tt,tt,tt,tt,tt,tt,tt,tt,tt,tt,tt,ff,ff] rfl rfl (any_of HT_.out (by kernel_rfl)) (fun _ _ _ h => h) (Or.inl ⟨by rfl, ?_⟩) ?_ ?_
        rotate_left
        ·intro w'
         go_simp
         with_reducible rfl
        rotate_left
        ·simp only [Act.put, sQ0, sQ1, sQ2, i64_w]
         rfl
        refine pure_ (i := 12) (N := some 69) (v := ?_) (a' := ?_) #[tt,tt,tt,tt,tt,tt,tt,tt,tt,tt,tt,tt,tt,ff] rfl rfl (any_of HT_.out (by kernel_rfl)) (fun _ _ _ h => h) (Or.inl ⟨by rfl, ?_⟩) ?_ ?_
        rotate_left
        ·intro w'
         go_simp
         with_reducible rfl
        rotate_left
        ·simp only [Act.put, sQ0, sQ1, sQ2, i64_w]
         rfl
        refine pure_ (i := 13) (N := some 4) (v := ?_) (a' := ?_) #[tt,tt,tt,tt,tt,tt,tt,tt,tt,tt,tt,tt,tt,tt] rfl rfl (any_of HT_.out (by kernel_rfl)) (fun _ _ _ h => h) (Or.inl ⟨by rfl, ?_⟩) ?_ ?_
        rotate_left
        ·intro w'
         go_simp
         with_reducible rfl
        rotate_left
        ·simp only [Act.put, sQ0, sQ1, sQ2, i64_w]
         rfl
        refine done_ (done_of HT_.out (by kernel_rfl)) ?_
        try go_wp2
        go_ret
        exact ⟨by first | rfl | (simp [errW_none, errW_some] <;> rfl) | (simp [*, errW_none, errW_some] <;> rfl), by repeat (first | (with_reducible first | exact HB.out | apply below_alloc | apply pw_below_drewN | apply below_drew1 | refine below_set ?_ GE140.out | refine below_set ?_ GE141.out) | exact HB.out)⟩
end Go.Proofs.YthljanmfanppdaaDoor.KLw
end
section
namespace Go.Proofs.YthljanmfanppdaaDoor.LwS
open Go.RowKit Go.Proofs.YthljanmfanppdaaDoorW.PrintWords Go.Proofs.YthljanmfanppdaaDoorW.PrintLast Go.Proofs.YthljanmfanppdaaDoorW.PrintMore Go.Proofs.YthljanmfanppdaaDoor.KLw Go.Proofs.YthljanmfanppdaaDoor.Lw Go.Proofs.YthljanmfanppdaaDoor.Bk
set_option linter.unusedVariables false
set_option linter.unusedSimpArgs false
theorem byt_list (l : List UInt8) : (byt l).toList = l := by
 have h : (byt l).toList = (byt l).data.toList := by first | exact ByteArray.toList_eq _ | simp [ByteArray.toList_eq]
 rw [h]
 rfl
theorem bt_byt (l : List UInt8) (i : Nat) (h : i < l.length) : bt (byt l) (i : Int) = ((l[i]).toNat : Int) := by
 first
 | (unfold bt; rw [dif_pos (by exact h)]; rfl)
 | (unfold bt; simp [byt, h]; rfl)
 | (simp [bt, byt, h])
theorem byt_size (l : List UInt8) : (byt l).size = l.length := by simp [byt, ByteArray.size]
theorem w64 {x : Int} (h0 : -9223372036854775808 ≤ x) (h1 : x ≤ 9223372036854775807) : wrap64 x = x := by unfold wrap64; omega
def BB (v : Int) : Prop := -9223372036854775808 ≤ v ∧ v ≤ 9223372036854775807
theorem bb_of {n : Int} (h : (Lit.int .i64 n).wf = true) : BB n := by
 have e1 : IntKind.i64.min = -9223372036854775808 := by rfl
 have e2 : IntKind.i64.max = 9223372036854775807 := by rfl
 simp only [Lit.wf, decide_eq_true_eq, Bool.and_eq_true] at h
 exact ⟨by omega, by omega⟩
theorem itoa_is {v : Int} (h : BB v) : strconv_Itoa_14.f v = some (byt (Lib.itoa v)) := if_pos h
theorem len21 {v : Int} (h : BB v) : (Lib.itoa v).length ≤ 21 := Lib.itoa_length_le v h.1 h.2
theorem blank : (⟨#[32]⟩ : ByteArray) = byt [32] := rfl
theorem l_step (n : Nat) (X : List UInt8) (c t d e f : Bool) (k wk op cn tm dr er v : Int) (hX : X.length ≤ 500) (i : Nat) (hi : i < 4) (hf : rdOf false [c, t, d, e] (i : Int) = f) (hv : rd [cn, tm, dr, er] (i : Int) = v) (hb : BB v) :
  link_Line.l0 (n + 1) (byt X) [c, t, d, e] 4 (i : Int) k wk op cn tm dr er = link_Line.l0 n (byt (X ++ tailW (if f = true then [Lib.itoa v] else []))) [c, t, d, e] 4 ((i + 1 : Nat) : Int) k wk op cn tm dr er := by
 have hw : wrap64 ((i : Int) + 1) = ((i + 1 : Nat) : Int) := by rw [w64 (by omega) (by omega)]; omega
 have hl : (([c, t, d, e] : List Bool).length : Int) = 4 := rfl
 have hl2 : (([cn, tm, dr, er] : List Int).length : Int) = 4 := rfl
 rw [link_Line.l0]
 rw [if_pos (by omega), if_pos (by omega), if_pos (by rw [hl]; omega), hf]
 cases f with
 | false => rw [if_neg (by decide), if_neg (by decide), tailW_nil, List.append_nil, hw]
 | true =>
  have h21 := len21 hb
  rw [if_pos rfl, if_pos rfl, Option.bind_some, if_pos (by rw [hl2]; omega), hv, itoa_is hb, Option.bind_some, byt_size, if_pos (by omega), blank, byt_app, byt_size, byt_size, if_pos (by simp; omega), byt_app, hw, tailW_cons, tailW_nil, List.append_nil]
  rfl
theorem l_done (n : Nat) (x : ByteArray) (fl : List Bool) (k wk op cn tm dr er : Int) : link_Line.l0 (n + 1) x fl 4 ((4 : Nat) : Int) k wk op cn tm dr er = some x := by
 rw [link_Line.l0, if_neg (by omega)]
theorem tl_len (f : Bool) {v : Int} (h : BB v) : (tailW (if f = true then [Lib.itoa v] else [])).length ≤ 22 := by
 have := len21 h
 cases f with
 | false => rw [if_neg (by decide), tailW_nil]; exact Nat.zero_le _
 | true => rw [if_pos rfl, tailW_cons, tailW_nil, List.append_nil, List.length_cons]; omega
theorem l_all (n : Nat) (X : List UInt8) (c t d e : Bool) (k wk op cn tm dr er : Int) (hX : X.length ≤ 100) (h1 : BB cn) (h2 : BB tm) (h3 : BB dr) (h4 : BB er) :
  link_Line.l0 (n + 5) (byt X) [c, t, d, e] 4 0 k wk op cn tm dr er = some (byt (X ++ tailW ((if c = true then [Lib.itoa cn] else []) ++ (if t = true then [Lib.itoa tm] else []) ++ (if d = true then [Lib.itoa dr] else []) ++ (if e = true then [Lib.itoa er] else [])))) := by
 have a1 := tl_len c h1
 have a2 := tl_len t h2
 have a3 := tl_len d h3
 have s0 := l_step (n + 4) X c t d e c k wk op cn tm dr er cn (by omega) 0 (by omega) rfl rfl h1
 have s1 := l_step (n + 3) (X ++ tailW (if c = true then [Lib.itoa cn] else [])) c t d e t k wk op cn tm dr er tm (by rw [List.length_append]; omega) 1 (by omega) rfl rfl h2
 have s2 := l_step (n + 2) (X ++ tailW (if c = true then [Lib.itoa cn] else []) ++ tailW (if t = true then [Lib.itoa tm] else [])) c t d e d k wk op cn tm dr er dr (by rw [List.length_append, List.length_append]; omega) 2 (by omega) rfl rfl h3
 have s3 := l_step (n + 1) (X ++ tailW (if c = true then [Lib.itoa cn] else []) ++ tailW (if t = true then [Lib.itoa tm] else []) ++ tailW (if d = true then [Lib.itoa dr] else [])) c t d e e k wk op cn tm dr er er (by rw [List.length_append, List.length_append, List.length_append]; omega) 3 (by omega) rfl rfl h4
 refine s0.trans (s1.trans (s2.trans (s3.trans ?_)))
 rw [l_done]
 simp only [tailW_app, List.append_assoc]
theorem kind_name {k op : Int} (h : lkOk k op = true) : 1 ≤ k ∧ k ≤ 5 ∧ rdOf ByteArray.empty ([(⟨#[]⟩ : ByteArray), (⟨#[116, 105, 99, 107]⟩ : ByteArray), (⟨#[105, 110, 118, 111, 107, 101]⟩ : ByteArray), (⟨#[112, 111, 105, 110, 116]⟩ : ByteArray), (⟨#[97, 99, 116]⟩ : ByteArray), (⟨#[114, 101, 116, 117, 114, 110]⟩ : ByteArray)] : List ByteArray) k = byt (kindL k) := by
 rcases ok_cases h with ⟨rfl, _⟩ | ⟨rfl, _⟩ | ⟨rfl, _⟩ | ⟨rfl, _⟩ | ⟨rfl, _⟩ <;> exact ⟨by decide, by decide, rfl⟩
theorem op_name {op : Int} (h0 : 1 ≤ op) (h1 : op ≤ 8) : rdOf ByteArray.empty ([(⟨#[]⟩ : ByteArray), (⟨#[111, 112, 101, 110]⟩ : ByteArray), (⟨#[116, 111, 117, 99, 104]⟩ : ByteArray), (⟨#[99, 108, 111, 115, 101]⟩ : ByteArray), (⟨#[102, 97, 105, 108]⟩ : ByteArray), (⟨#[115, 117, 99, 99, 101, 115, 115]⟩ : ByteArray), (⟨#[97, 100, 118, 97, 110, 99, 101]⟩ : ByteArray), (⟨#[105, 100, 108, 101]⟩ : ByteArray), (⟨#[114, 101, 116, 114, 121]⟩ : ByteArray)] : List ByteArray) op = byt (opL op) := by
 obtain rfl | rfl | rfl | rfl | rfl | rfl | rfl | rfl : op = 1 ∨ op = 2 ∨ op = 3 ∨ op = 4 ∨ op = 5 ∨ op = 6 ∨ op = 7 ∨ op = 8 := by omega
 all_goals rfl
theorem kindL_len (k : Int) : (kindL k).length ≤ 6 := by
 unfold kindL
 repeat' split
 all_goals decide
theorem opL_len (k : Int) : (opL k).length ≤ 7 := by
 unfold opL
 repeat' split
 all_goals decide
theorem j_all (n : Nat) (X : List UInt8) (k wk op cn tm dr er : Int) (hX : X.length ≤ 100) (h1 : BB cn) (h2 : BB tm) (h3 : BB dr) (h4 : BB er) :
  link_Line.j0 (n + 6) (byt X) k wk op cn tm dr er = some (byt (X ++ tailW ((if lkC k op = true then [Lib.itoa cn] else []) ++ (if lkT k er = true then [Lib.itoa tm] else []) ++ (if lkD k op = true then [Lib.itoa dr] else []) ++ (if lkE k op = true then [Lib.itoa er] else [])))) := by
 rw [link_Line.j0]
 unfold link_shapeOf.f
 rw [Option.bind_some, Option.bind_some]
 exact l_all n X _ _ _ _ k wk op cn tm dr er hX h1 h2 h3 h4
theorem line_is (n : Nat) {k wk op cn tm dr er : Int} (h : lrB k wk op cn tm dr er = true) (h0 : BB wk) (h1 : BB cn) (h2 : BB tm) (h3 : BB dr) (h4 : BB er) : link_Line.f (n + 6) k wk op cn tm dr er = some (byt (textL k wk op cn tm dr er)) := by
 have ho := (lr_cases h).1
 obtain ⟨k0, k5, hn⟩ := kind_name ho
 have hk := kindL_len k
 have hp := opL_len op
 have hw := len21 h0
 unfold link_Line.f link_Right.f
 rw [Option.bind_some, if_pos h, Option.bind_some, Option.bind_some, if_pos (by omega), if_pos (by simp; omega), hn]
 by_cases k1 : k = 1
 ·rw [if_pos k1, j_all n _ _ _ _ _ _ _ _ (by omega) h1 h2 h3 h4]
  unfold textL restL
  rw [if_pos k1, if_pos k1]
  rfl
 ·have hc := ok_cases ho
  rw [if_neg k1, itoa_is h0, Option.bind_some, op_name (by omega) (by omega), blank]
  rw [byt_size, if_pos (by omega)]
  simp only [byt_app]
  rw [byt_size, if_pos (by simp; omega), if_pos (by omega), if_pos (by simp; omega)]
  simp only [byt_size]
  rw [if_pos (by simp; omega), if_pos (by simp; omega), j_all n _ _ _ _ _ _ _ _ (by simp; omega) h1 h2 h3 h4]
  unfold textL restL
  rw [if_neg k1, if_neg k1]
  simp [tailW_cons, tailW_app, List.append_assoc]
theorem text_len {k wk op cn tm dr er : Int} (h0 : BB wk) (h1 : BB cn) (h2 : BB tm) (h3 : BB dr) (h4 : BB er) : (textL k wk op cn tm dr er).length ≤ 1000 := by
 have hk := kindL_len k
 have hp := opL_len op
 have l0 := len21 h0
 have w2 : ∀ (c : Prop) [Decidable c] (x : List UInt8) (b : Nat), x.length ≤ b → (tailW (if c then [] else [x])).length ≤ b + 1 := fun c _ x b hx => by
  split
  ·rw [tailW_nil]; exact Nat.zero_le _
  ·rw [tailW_cons, tailW_nil, List.append_nil, List.length_cons]; omega
 have a1 := w2 (k = 1) _ _ l0
 have a2 := w2 (k = 1) _ _ hp
 have a3 := tl_len (lkC k op) h1
 have a4 := tl_len (lkT k er) h2
 have a5 := tl_len (lkD k op) h3
 have a6 := tl_len (lkE k op) h4
 unfold textL restL
 simp only [tailW_app, List.length_append]
 omega
theorem text_ne (k wk op cn tm dr er : Int) : textL k wk op cn tm dr er ≠ [] := by
 intro e
 have := congrArg List.length e
 unfold textL at this
 rw [List.length_append, List.length_nil] at this
 exact (kindL_word k).1 (List.length_eq_zero_iff.1 (by omega))
section
variable {k wk op cn tm dr er k' wk' op' cn' tm' dr' er' : Int}
theorem words_loop (l : List UInt8) (hl : l.length ≤ 1000) (hf : Fine l) (h0 : l ≠ []) (r' : lrB k' wk' op' cn' tm' dr' er' = true) (b0 : BB wk') (b1 : BB cn') (b2 : BB tm') (b3 : BB dr') (b4 : BB er')
  (he : (l == textL k' wk' op' cn' tm' dr' er') = (k == k' && (wk == wk' && (op == op' && (cn == cn' && (tm == tm' && (dr == dr' && (er == er')))))))) :
  ∀ (d m i : Nat), i + d = l.length → d + 10 < m → knelllaw24_LinkWords.l0 m (byt l) (l.length : Int) i k wk op cn tm dr er k' wk' op' cn' tm' dr' er' = some true := by
 intro d
 induction d with
 | zero =>
  intro m i hi hm
  obtain ⟨m, rfl⟩ : ∃ q, m = q + 7 := ⟨m - 7, by omega⟩
  rw [show m + 7 = (m + 6) + 1 from rfl, knelllaw24_LinkWords.l0]
  rw [if_neg (by omega), byt_list, if_neg h0]
  unfold knelllaw24_Of.f
  rw [Option.bind_some]
  simp only
  rw [line_is m r' b0 b1 b2 b3 b4, Option.bind_some, byt_list, he, beq_self_eq_true]
 | succ d ih =>
  intro m i hi hm
  obtain ⟨m, rfl⟩ : ∃ q, m = q + 1 := ⟨m - 1, by omega⟩
  have hil : i < l.length := by omega
  rw [knelllaw24_LinkWords.l0]
  rw [byt_size, if_pos (by omega), if_pos (by omega), if_pos (by omega), bt_byt l i hil]
  have h10 : ((l[i]).toNat : Int) ≠ 10 := fun e => by
   apply hf.1 _ (List.getElem_mem hil)
   exact UInt8.toNat_inj.1 (by have : (10 : UInt8).toNat = 10 := rfl; omega)
  rw [if_neg h10]
  have nx : knelllaw24_LinkWords.l0 m (byt l) (l.length : Int) (wrap64 ((i : Int) + 1)) k wk op cn tm dr er k' wk' op' cn' tm' dr' er' = some true := by
   rw [w64 (by omega) (by omega)]
   exact ih m (i + 1) (by omega) (by omega)
  by_cases h32 : ((l[i]).toNat : Int) = 32
  ·have e32 : l[i] = 32 := UInt8.toNat_inj.1 (by have : (32 : UInt8).toNat = 32 := rfl; omega)
   have q : l[i]? = some 32 := by rw [List.getElem?_eq_getElem hil, e32]
   rw [if_pos h32]
   have i0 : ¬ (i : Int) = 0 := fun e => by
    have e' : i = 0 := by omega
    subst e'
    exact hf.2.1 (by rw [List.head?_eq_getElem?]; exact q)
   have i1 : ¬ i = l.length - 1 := fun e => by
    subst e
    exact hf.2.2.1 (by rw [List.getLast?_eq_getElem?]; exact q)
   have e1 : wrap64 ((i : Int) + 1) = ((i + 1 : Nat) : Int) := by rw [w64 (by omega) (by omega)]; omega
   rw [if_neg i0, if_neg (by rw [w64 (by omega) (by omega)]; omega), e1, if_pos (by omega), if_pos (by omega), bt_byt l (i + 1) (by omega)]
   have h2 : ¬ ((l[i + 1]).toNat : Int) = 32 := fun e => by
    have e' : l[i + 1] = 32 := UInt8.toNat_inj.1 (by have : (32 : UInt8).toNat = 32 := rfl; omega)
    exact hf.2.2.2 i q (by rw [List.getElem?_eq_getElem (by omega), e'])
   rw [if_neg h2, ← e1]
   exact nx
  ·rw [if_neg h32]
   exact nx
theorem words_j (n : Nat) (r : lrB k wk op cn tm dr er = true) (r' : lrB k' wk' op' cn' tm' dr' er' = true) (c0 : BB wk) (c1 : BB cn) (c2 : BB tm) (c3 : BB dr) (c4 : BB er) (b0 : BB wk') (b1 : BB cn') (b2 : BB tm') (b3 : BB dr') (b4 : BB er') :
  knelllaw24_LinkWords.j0 2001 false k wk op cn tm dr er k' wk' op' cn' tm' dr' er' = some true := by
 rw [knelllaw24_LinkWords.j0, if_neg (by decide)]
 unfold knelllaw24_Of.f
 rw [Option.bind_some]
 simp only
 rw [line_is 1994 r c0 c1 c2 c3 c4, Option.bind_some, byt_size]
 have hl := text_len (k := k) (op := op) c0 c1 c2 c3 c4
 exact words_loop _ hl (textL_fine _ _ _ _ _ _ _) (text_ne _ _ _ _ _ _ _) r' b0 b1 b2 b3 b4 (by
  rw [Bool.eq_iff_iff]
  simp only [beq_iff_eq, Bool.and_eq_true]
  constructor
  ·intro e
   exact textL_inj r r' e
  ·rintro ⟨rfl, rfl, rfl, rfl, rfl, rfl, rfl⟩
   rfl) (textL k wk op cn tm dr er).length 2000 0 (by omega) (by omega)
theorem words_no : knelllaw24_LinkWords.j0 2001 true k wk op cn tm dr er k' wk' op' cn' tm' dr' er' = some true := by
 rw [knelllaw24_LinkWords.j0, if_pos rfl]
 rfl
end
end Go.Proofs.YthljanmfanppdaaDoor.LwS
namespace Go.Proofs.YthljanmfanppdaaDoor.KLw
open Go.RowKit Go.Proofs.YthljanmfanppdaaDoor.Lw Go.Proofs.YthljanmfanppdaaDoor.Bk Go.Proofs.YthljanmfanppdaaDoor.LwS
theorem LinkWords (k wk op cn tm dr er k' wk' op' cn' tm' dr' er' : Int) (c0 : (Lit.int .i64 wk).wf = true) (c1 : (Lit.int .i64 cn).wf = true) (c2 : (Lit.int .i64 tm).wf = true) (c3 : (Lit.int .i64 dr).wf = true) (c4 : (Lit.int .i64 er).wf = true)
  (b0 : (Lit.int .i64 wk').wf = true) (b1 : (Lit.int .i64 cn').wf = true) (b2 : (Lit.int .i64 tm').wf = true) (b3 : (Lit.int .i64 dr').wf = true) (b4 : (Lit.int .i64 er').wf = true) : ∃ m, knelllaw24_LinkWords.f m k wk op cn tm dr er k' wk' op' cn' tm' dr' er' = some true := by
 refine ⟨2001, ?_⟩
 unfold knelllaw24_LinkWords.f knelllaw24_speaks.f
 rw [Option.bind_some, if_pos rfl, rright_is 1992, Option.bind_some]
 cases r : lrB k wk op cn tm dr er with
 | false =>
  rw [if_neg (by decide)]
  exact words_no
 | true =>
  rw [if_pos rfl, rright_is 1992, Option.bind_some]
  cases r' : lrB k' wk' op' cn' tm' dr' er' with
  | false => exact words_no
  | true => exact words_j 0 r r' (bb_of c0) (bb_of c1) (bb_of c2) (bb_of c3) (bb_of c4) (bb_of b0) (bb_of b1) (bb_of b2) (bb_of b3) (bb_of b4)
end Go.Proofs.YthljanmfanppdaaDoor.KLw
end
section
namespace Go.Proofs.YthljanmfanppdaaDoor.Krow
open Go.ChangeShapes Go.WideShapes Go.Deep Go.Proofs.YthljanmfanppdaaDoorW.PrintWords
inductive Leaf where
 | int (k : IntKind)
 | bool
def Leaf.ok : Leaf → Value → Prop
 | .int k, v => ∃ n, v = .int k n ∧ (Lit.int k n).wf = true
 | .bool, v => ∃ b, v = .bool b
def Leaves : List Leaf → List Value → Prop
 | [], [] => True
 | l :: ls, v :: vs => l.ok v ∧ Leaves ls vs
 | _, _ => False
theorem Leaves.length : ∀ {ls : List Leaf} {vs : List Value}, Leaves ls vs → vs.length = ls.length
 | [], [], _ => rfl
 | _ :: _, _ :: _, h => by simp [Leaves.length h.2]
theorem Leaves.append : ∀ {a b : List Leaf} {vs ws : List Value}, Leaves a vs → Leaves b ws → Leaves (a ++ b) (vs ++ ws)
 | [], _, [], _, _, h => h
 | _ :: _, _, _ :: _, _, h, h' => ⟨h.1, Leaves.append h.2 h'⟩
theorem Leaves.int {k : IntKind} {ls : List Leaf} {vs : List Value} (h : Leaves (.int k :: ls) vs) : ∃ n r, vs = .int k n :: r ∧ (Lit.int k n).wf = true ∧ Leaves ls r := by
 match vs, h with
 | _ :: r, ⟨⟨n, rfl, hw⟩, h⟩ => exact ⟨n, r, rfl, hw, h⟩
theorem Leaves.boole {ls : List Leaf} {vs : List Value} (h : Leaves (.bool :: ls) vs) : ∃ b r, vs = .bool b :: r ∧ Leaves ls r := by
 match vs, h with
 | _ :: r, ⟨⟨b, rfl⟩, h⟩ => exact ⟨b, r, rfl, h⟩
theorem Leaves.nil {vs : List Value} (h : Leaves [] vs) : vs = [] := by
 match vs, h with
 | [], _ => rfl
theorem collect {α : Type} {p : Nat → α → Prop} {len : Nat} (key : ∀ i, i < len → ∃ x : α, p i x) : ∃ l : List α, l.length = len ∧ ∀ i x, l[i]? = some x → p i x := by
 induction len with
 | zero => exact ⟨[], rfl, fun i x h => by simp at h⟩
 | succ len ih =>
  obtain ⟨l, hl, hx⟩ := ih (fun i hi => key i (by omega))
  obtain ⟨x, hp⟩ := key len (by omega)
  refine ⟨l ++ [x], by simp [hl], fun i y hy => ?_⟩
  by_cases hi : i < len
  ·rw [List.getElem?_append_left (by omega)] at hy
   exact hx i y hy
  ·rw [List.getElem?_append_right (by omega)] at hy
   have : i - l.length = 0 := by
    have := (List.getElem?_eq_some_iff.1 hy).1
    simp at this
    omega
   rw [this] at hy
   obtain rfl : x = y := by simpa using hy
   obtain rfl : i = len := by omega
   exact hp
def fieldsOf (f : TypeId → Option (List Leaf)) (P : Program) : List Field → Nat → Option (List Leaf)
 | [], _ => some []
 | x :: r, off => (f x.type).bind fun ls => if x.offset = off ∧ P.cellsOf x.type = ls.length then (fieldsOf f P r (off + ls.length)).map (ls ++ ·) else none
def plainOf (P : Program) : Nat → TypeId → Option (List Leaf)
 | 0, _ => none
 | n + 1, t => match P.underlying t with
  | some (.int k) => some [.int k]
  | some .bool => some [.bool]
  | some (.struct fs) => (fieldsOf (plainOf P n) P fs.toList 0).bind fun ls => if P.cellsOf t = ls.length then some ls else none
  | some (.array m e) => (plainOf P n e).bind fun ls => if P.cellsOf e = ls.length ∧ P.cellsOf t = m * ls.length then some ((List.replicate m ls).flatten) else none
  | _ => none
section
variable {H : Type} {enc : TypeId × Value → H} {P : Program} {w : World} {base : Nat} {spare : Nat → Bool} {held : Bool}
theorem fields_leaves {n : Nat} (ih : ∀ (t : TypeId) (ls : List Leaf) (fuel : Nat) (cs : List Value) (x : DataW H × List MemPlace), plainOf P n t = some ls → DataW.trod enc P w base spare held fuel t cs = some x → Leaves ls cs) (cs : List Value) (m : Nat) :
  ∀ (fs : List Field) (off : Nat) (ls : List Leaf), (∀ (i : Nat) (f : Field), fs[i]? = some f → ∃ x, DataW.trod enc P w base spare held m f.type ((cs.drop f.offset).take (P.cellsOf f.type)) = some x) →
   fieldsOf (plainOf P n) P fs off = some ls → Leaves ls ((cs.drop off).take ls.length) := by
 intro fs
 induction fs with
 | nil =>
  intro off ls _ h
  simp only [fieldsOf, Option.some.injEq] at h
  subst h
  simp [Leaves]
 | cons f r ihr =>
  intro off ls hx h
  simp only [fieldsOf] at h
  obtain ⟨l1, h1, h⟩ := Option.bind_eq_some_iff.1 h
  by_cases hc : f.offset = off ∧ P.cellsOf f.type = l1.length
  ·rw [if_pos hc] at h
   obtain ⟨l2, h2, rfl⟩ := Option.map_eq_some_iff.1 h
   obtain ⟨x, hx0⟩ := hx 0 f rfl
   rw [hc.1, hc.2] at hx0
   have a1 := ih f.type l1 m _ x h1 hx0
   have a2 := ihr (off + l1.length) l2 (fun i g hg => hx (i + 1) g hg) h2
   have e : (cs.drop off).take (l1 ++ l2).length = (cs.drop off).take l1.length ++ (cs.drop (off + l1.length)).take l2.length := by
    rw [List.length_append, List.take_add, List.drop_drop]
   rw [e]
   exact a1.append a2
  ·rw [if_neg hc] at h
   cases h
theorem blocks_leaves (ls : List Leaf) (cs : List Value) : ∀ (m off : Nat), (∀ i, i < m → Leaves ls ((cs.drop ((off + i) * ls.length)).take ls.length)) → Leaves ((List.replicate m ls).flatten) ((cs.drop (off * ls.length)).take (m * ls.length)) := by
 intro m
 induction m with
 | zero => intro off _; simp [Leaves]
 | succ m ih =>
  intro off h
  have a1 := h 0 (by omega)
  have a2 := ih (off + 1) (fun i hi => by have := h (i + 1) (by omega); rw [show off + 1 + i = off + (i + 1) by omega]; exact this)
  rw [Nat.add_zero] at a1
  rw [List.replicate_succ, List.flatten_cons, show (m + 1) * ls.length = ls.length + m * ls.length by rw [Nat.add_mul]; omega, List.take_add, List.drop_drop, show off * ls.length + ls.length = (off + 1) * ls.length by rw [Nat.add_mul]; omega]
  exact a1.append a2
theorem plain_trod : ∀ (n : Nat) (t : TypeId) (ls : List Leaf) (fuel : Nat) (cs : List Value) (x : DataW H × List MemPlace), plainOf P n t = some ls → DataW.trod enc P w base spare held fuel t cs = some x → Leaves ls cs := by
 intro n
 induction n with
 | zero => intro t ls fuel cs x h; cases h
 | succ n ih =>
  intro t ls fuel cs x h hx
  unfold plainOf at h
  split at h
  ·rename_i k hu
   obtain rfl := Option.some.inj h
   obtain ⟨a, rfl, _, hw⟩ := DataW.trod_int hu hx
   exact ⟨⟨a, rfl, hw⟩, trivial⟩
  ·rename_i hu
   obtain rfl := Option.some.inj h
   obtain ⟨b, rfl, _⟩ := DataW.trod_bool hu hx
   exact ⟨⟨b, rfl⟩, trivial⟩
  ·rename_i fs hu
   obtain ⟨l, h1, h⟩ := Option.bind_eq_some_iff.1 h
   by_cases hc : P.cellsOf t = l.length
   ·rw [if_pos hc] at h
    obtain rfl := Option.some.inj h
    obtain ⟨xs, m, _, _, hl, hlen, hf⟩ := DataW.trod_struct hu hx
    have := fields_leaves ih cs m fs.toList 0 l (fun i f hi => by
     have hi' : fs[i]? = some f := by simpa using hi
     rw [hf i f hi']
     have : i < xs.length := by rw [hlen]; exact (Array.getElem?_eq_some_iff.1 hi').1
     exact ⟨_, List.getElem?_eq_getElem this⟩) h1
    rw [List.drop_zero, List.take_of_length_le (by omega)] at this
    exact this
   ·rw [if_neg hc] at h
    cases h
  ·rename_i m e hu
   obtain ⟨l, h1, h⟩ := Option.bind_eq_some_iff.1 h
   by_cases hc : P.cellsOf e = l.length ∧ P.cellsOf t = m * l.length
   ·rw [if_pos hc] at h
    obtain rfl := Option.some.inj h
    obtain ⟨xs, q, _, _, hl, hlen, hf⟩ := DataW.trod_array hu hx
    have := blocks_leaves l cs m 0 (fun i hi => by
     have h2 := hf i hi
     rw [List.getElem?_eq_getElem (by omega), hc.1] at h2
     rw [Nat.zero_add]
     exact ih e l q _ _ h1 h2)
    rw [Nat.zero_mul, List.drop_zero, List.take_of_length_le (by omega)] at this
    exact this
   ·rw [if_neg hc] at h
    cases h
  ·cases h
theorem open_plain {r : Reach} {b0 : Nat} {t : TypeId} {v : Value} {d : DataW H} {ps : List MemPlace} {n : Nat} {ls : List Leaf} (hp : plainOf P n t = some ls) (ha : (match P.underlying t with | some (.struct _) | some (.array _ _) => true | _ => false) = true)
  (hv : Value.okWide P w r b0 t v) (h : DataW.Trod enc P w base spare held t v d ps) : ∃ cs : List Value, v = .agg cs.toArray ∧ Leaves ls cs := by
 obtain ⟨fuel, hf⟩ := h
 unfold Value.okWide at hv
 have key : ∃ cs, v = .agg cs := by
  split at hv
  ·obtain ⟨cs, h1, _⟩ := hv; exact ⟨cs, h1⟩
  ·obtain ⟨cs, h1, _⟩ := hv; exact ⟨cs, h1⟩
  ·rename_i h1 h2
   split at ha
   ·rename_i fs he; exact absurd he (h1 fs)
   ·rename_i a e he; exact absurd he (h2 a e)
   ·cases ha
 obtain ⟨cs, rfl⟩ := key
 have h2 := plain_trod n t ls fuel _ _ hp hf
 exact ⟨cs.toList, by simp, by simpa [Value.cells] using h2⟩
theorem open_rows {α : Type} (D : Kd α) (good : α → Prop) {r : Reach} {b0 : Nat} {t e : TypeId} {v : Value} {d : DataW H} {ps : List MemPlace} {n : Nat} {ls : List Leaf} (hu : P.underlying t = some (.slice e)) (hp : plainOf P n e = some ls) (hc : P.cellsOf e = ls.length) (hsz : D.sz = ls.length)
  (mk : ∀ cs : List Value, Leaves ls cs → ∃ x : α, D.K w x cs ∧ good x)
  (hv : Value.okWide P w r b0 t v) (h : DataW.Trod enc P w base spare held t v d ps) :
  ∃ (A : Option Addr) (c : Nat) (l : List α), v = .slice A l.length c ∧ l.length ≤ c ∧ l.length ≤ 9223372036854775807 ∧ Kd.C D w A l.length l ∧ ∀ x ∈ l, good x := by
 obtain ⟨A, len, cap, rfl⟩ := okWide_slice hu hv
 obtain ⟨fuel, hf⟩ := h
 rcases open_slice hu hf with ⟨hcs, _⟩ | ⟨a, len', cap', m, q, Ds, Pl, hcs, _, hl, hm, hmm, _, hi⟩
 ·simp [Value.cells] at hcs
  obtain ⟨rfl, rfl, rfl⟩ := hcs
  exact ⟨none, 0, [], rfl, Nat.le_refl _, by simp, ⟨rfl, by simp, fun h => absurd h (by simp)⟩, by simp⟩
 ·simp [Value.cells] at hcs
  obtain ⟨rfl, rfl, rfl⟩ := hcs
  have hlm : len ≤ m := by
   rw [hmm]
   split
   ·exact hl
   ·exact Nat.le_refl _
  have key : ∀ i, i < len → ∃ (x : α) (cs : List Value), D.K w x cs ∧ good x ∧ cs.length = ls.length ∧ ∀ j u, cs[j]? = some u → w.cell? (a.add (i * ls.length + j)) = some u := by
   intro i hil
   obtain ⟨cs', h1, h2⟩ := hi i (by omega)
   rw [hc] at h1
   obtain ⟨_, hlen, hcell⟩ := World.cells?_some h1
   obtain ⟨x, hx, hg⟩ := mk cs' (plain_trod n e ls q cs' _ hp h2)
   refine ⟨x, cs', hx, hg, hlen, fun j u hu => ?_⟩
   have hj : j < ls.length := by rw [← hlen]; exact (List.getElem?_eq_some_iff.1 hu).1
   rw [← Go.Deep.add_add, hcell j hj, hu]
  have ch := collect key
  obtain ⟨l, rfl, hx⟩ := ch
  have hm' : cap ≤ 9223372036854775807 := hm
  refine ⟨some a, cap, l, rfl, hl, by omega, ⟨rfl, by omega, fun _ => ⟨a, rfl, fun j p hj => ?_⟩⟩, fun x hxl => ?_⟩
  ·obtain ⟨cs, h1, _, h3, h4⟩ := hx j p hj
   refine ⟨cs, by rw [h3, hsz], h1, ?_⟩
   rw [hsz]
   exact h4
  ·obtain ⟨i, hi⟩ := List.mem_iff_getElem?.1 hxl
   obtain ⟨_, _, h2, _⟩ := hx i x hi
   exact h2
end
end Go.Proofs.YthljanmfanppdaaDoor.Krow
end
