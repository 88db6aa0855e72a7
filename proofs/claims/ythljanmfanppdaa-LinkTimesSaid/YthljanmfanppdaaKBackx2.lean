/- What is proved: each Go function named here comes to what the plain function of its name comes to, whatever the memory; no conditions. Written by a program of this session (kp.py) over the kit's print. -/
import Derived.Test.YthljanmfanppdaaKBackx0
import Derived.Test.YthljanmfanppdaaKBackx1
namespace Go.Proofs.Ythljanmfanppdaa.KBack
open Go.RowKit Go.Proofs.YthljanmfanppdaaW.PrintWords Go.Proofs.YthljanmfanppdaaW.PrintLast Go.Proofs.YthljanmfanppdaaW.PrintMore
attribute [local go_sem] max2_int min2_int max_two min_two max_three min_three max_four min_four   -- for this text's walks alone
set_option linter.unusedVariables false
set_option linter.unusedSimpArgs false

/-! ### knelllaw23_BackoffAll: function 5 -/
mutual
def knelllaw23_BackoffAll.j0 : Nat → Bool → Int → Int → Int → Int → Int → Int → Int → Int → Int → Int → Int → Int → Int → Option (Bool)
  | 0, _, _, _, _, _, _, _, _, _, _, _, _, _, _ => none
  | k + 1, x13, x126000, x126001, x126002, x126003, x126004, x126005, x126006, x126007, x126008, x126009, x126010, x126011, x126012 => if x13 = true then ((knelllaw23_speaks.f k).bind fun t128 => (some t128)) else ((knelllaw03_Of.f x126000 x126001 x126002 x126003 x126004 x126005 x126006 x126007 x126008 x126009 x126010 x126011 x126012).bind fun bt129 => ((backoff_All.f k bt129.1 bt129.2.1 bt129.2.2.1 bt129.2.2.2.1 bt129.2.2.2.2.1 bt129.2.2.2.2.2.1 bt129.2.2.2.2.2.2.1 bt129.2.2.2.2.2.2.2.1 bt129.2.2.2.2.2.2.2.2.1 bt129.2.2.2.2.2.2.2.2.2.1 bt129.2.2.2.2.2.2.2.2.2.2.1 bt129.2.2.2.2.2.2.2.2.2.2.2.1 bt129.2.2.2.2.2.2.2.2.2.2.2.2).bind fun t143 => (if (t143.length : Int) = bt129.2.2.2.2.2.2.2.2.2.2.2.2 then (knelllaw23_BackoffAll.l0 k t143 t143 (t143.length : Int) 0 bt129.1 bt129.2.1 bt129.2.2.1 bt129.2.2.2.1 bt129.2.2.2.2.1 bt129.2.2.2.2.2.1 bt129.2.2.2.2.2.2.1 bt129.2.2.2.2.2.2.2.1 bt129.2.2.2.2.2.2.2.2.1 bt129.2.2.2.2.2.2.2.2.2.1 bt129.2.2.2.2.2.2.2.2.2.2.1 bt129.2.2.2.2.2.2.2.2.2.2.2.1 bt129.2.2.2.2.2.2.2.2.2.2.2.2) else (some false))))
def knelllaw23_BackoffAll.l0 : Nat → List Int → List Int → Int → Int → Int → Int → Int → Int → Int → Int → Int → Int → Int → Int → Int → Int → Int → Option (Bool)
  | 0, _, _, _, _, _, _, _, _, _, _, _, _, _, _, _, _, _ => none
  | k + 1, x4, x24, x25, x26, x143000, x143001, x143002, x143003, x143004, x143005, x143006, x143007, x143008, x143009, x143010, x143011, x143012 => if x26 < x25 then (if 0 ≤ x26 then (if x26 < (x24.length : Int) then ((backoff_Wait.f k x143009 x143010 x26).bind fun t147 => (if (rd x24 x26) = t147 then (if (rd x24 x26) > x143010 then (some false) else (if (rd x24 x26) < 1 then (some false) else (if x26 > 0 then (if 0 ≤ (wrap64 (x26 - 1)) then (if (wrap64 (x26 - 1)) < (x4.length : Int) then (if (rd x24 x26) < (rd x4 (wrap64 (x26 - 1))) then (some false) else (knelllaw23_BackoffAll.l0 k x4 x24 x25 (wrap64 (x26 + 1)) x143000 x143001 x143002 x143003 x143004 x143005 x143006 x143007 x143008 x143009 x143010 x143011 x143012)) else (none)) else (none)) else (knelllaw23_BackoffAll.l0 k x4 x24 x25 (wrap64 (x26 + 1)) x143000 x143001 x143002 x143003 x143004 x143005 x143006 x143007 x143008 x143009 x143010 x143011 x143012)))) else (some false))) else (none)) else (none)) else (some true)
end
def knelllaw23_BackoffAll.f (k : Nat) (a0_0 : Int) (a0_1 : Int) (a0_2 : Int) (a0_3 : Int) (a0_4 : Int) (a0_5 : Int) (a0_6 : Int) (a0_7 : Int) (a0_8 : Int) (a0_9 : Int) (a0_10 : Int) (a0_11 : Int) (a0_12 : Int) : Option (Bool) := (knelllaw23_speaks.f k).bind fun t126 => (if t126 = true then ((knellref03_Right.f a0_0 a0_1 a0_2 a0_3 a0_4 a0_5 a0_6 a0_7 a0_8 a0_9 a0_10 a0_11 a0_12).bind fun t127 => (knelllaw23_BackoffAll.j0 k (!t127) a0_0 a0_1 a0_2 a0_3 a0_4 a0_5 a0_6 a0_7 a0_8 a0_9 a0_10 a0_11 a0_12)) else (knelllaw23_BackoffAll.j0 k true a0_0 a0_1 a0_2 a0_3 a0_4 a0_5 a0_6 a0_7 a0_8 a0_9 a0_10 a0_11 a0_12))
theorem knelllaw23_BackoffAll.mono_l : ∀ k, (∀ y0 y1 y2 y3 y4 y5 y6 y7 y8 y9 y10 y11 y12 y13, LeO (knelllaw23_BackoffAll.j0 k y0 y1 y2 y3 y4 y5 y6 y7 y8 y9 y10 y11 y12 y13) (knelllaw23_BackoffAll.j0 (k + 1) y0 y1 y2 y3 y4 y5 y6 y7 y8 y9 y10 y11 y12 y13)) ∧ (∀ y0 y1 y2 y3 y4 y5 y6 y7 y8 y9 y10 y11 y12 y13 y14 y15 y16, LeO (knelllaw23_BackoffAll.l0 k y0 y1 y2 y3 y4 y5 y6 y7 y8 y9 y10 y11 y12 y13 y14 y15 y16) (knelllaw23_BackoffAll.l0 (k + 1) y0 y1 y2 y3 y4 y5 y6 y7 y8 y9 y10 y11 y12 y13 y14 y15 y16))
  | 0 => ⟨fun _ _ _ _ _ _ _ _ _ _ _ _ _ _ r h => by simp [knelllaw23_BackoffAll.j0] at h, fun _ _ _ _ _ _ _ _ _ _ _ _ _ _ _ _ _ r h => by simp [knelllaw23_BackoffAll.l0] at h⟩
  | k + 1 => by
    obtain ⟨ih0, ih1⟩ := knelllaw23_BackoffAll.mono_l k
    refine ⟨?_, ?_⟩
    · intro y0 y1 y2 y3 y4 y5 y6 y7 y8 y9 y10 y11 y12 y13
      unfold knelllaw23_BackoffAll.j0
      repeat' first
      | (with_reducible exact ih0 _ _ _ _ _ _ _ _ _ _ _ _ _ _)
      | (with_reducible exact ih1 _ _ _ _ _ _ _ _ _ _ _ _ _ _ _ _ _)
      | (with_reducible exact backoff_All.mono _ _ _ _ _ _ _ _ _ _ _ _ _ _)
      | (with_reducible exact backoff_Wait.mono _ _ _ _)
      | (with_reducible exact knelllaw23_speaks.mono _)
      | (with_reducible exact LeO.refl _)
      | (with_reducible exact LeO.none _)
      | (with_reducible refine LeO.ite ?_ ?_)
      | (with_reducible refine LeO.bind ?_ (fun _ => ?_))
      | exact ih0 _ _ _ _ _ _ _ _ _ _ _ _ _ _
      | exact ih1 _ _ _ _ _ _ _ _ _ _ _ _ _ _ _ _ _
      | exact backoff_All.mono _ _ _ _ _ _ _ _ _ _ _ _ _ _
      | exact backoff_Wait.mono _ _ _ _
      | exact knelllaw23_speaks.mono _
      | exact LeO.none _
      | refine LeO.ite ?_ ?_
      | refine LeO.bind ?_ (fun _ => ?_)
    · intro y0 y1 y2 y3 y4 y5 y6 y7 y8 y9 y10 y11 y12 y13 y14 y15 y16
      unfold knelllaw23_BackoffAll.l0
      repeat' first
      | (with_reducible exact ih0 _ _ _ _ _ _ _ _ _ _ _ _ _ _)
      | (with_reducible exact ih1 _ _ _ _ _ _ _ _ _ _ _ _ _ _ _ _ _)
      | (with_reducible exact backoff_All.mono _ _ _ _ _ _ _ _ _ _ _ _ _ _)
      | (with_reducible exact backoff_Wait.mono _ _ _ _)
      | (with_reducible exact knelllaw23_speaks.mono _)
      | (with_reducible exact LeO.refl _)
      | (with_reducible exact LeO.none _)
      | (with_reducible refine LeO.ite ?_ ?_)
      | (with_reducible refine LeO.bind ?_ (fun _ => ?_))
      | exact ih0 _ _ _ _ _ _ _ _ _ _ _ _ _ _
      | exact ih1 _ _ _ _ _ _ _ _ _ _ _ _ _ _ _ _ _
      | exact backoff_All.mono _ _ _ _ _ _ _ _ _ _ _ _ _ _
      | exact backoff_Wait.mono _ _ _ _
      | exact knelllaw23_speaks.mono _
      | exact LeO.none _
      | refine LeO.ite ?_ ?_
      | refine LeO.bind ?_ (fun _ => ?_)
theorem knelllaw23_BackoffAll.mono : ∀ a0 a1 a2 a3 a4 a5 a6 a7 a8 a9 a10 a11 a12 k, LeO (knelllaw23_BackoffAll.f k a0 a1 a2 a3 a4 a5 a6 a7 a8 a9 a10 a11 a12) (knelllaw23_BackoffAll.f (k + 1) a0 a1 a2 a3 a4 a5 a6 a7 a8 a9 a10 a11 a12) := by
  intro a0 a1 a2 a3 a4 a5 a6 a7 a8 a9 a10 a11 a12 k
  obtain ⟨ih0, ih1⟩ := knelllaw23_BackoffAll.mono_l k
  unfold knelllaw23_BackoffAll.f
  repeat' first
      | (with_reducible exact ih0 _ _ _ _ _ _ _ _ _ _ _ _ _ _)
      | (with_reducible exact ih1 _ _ _ _ _ _ _ _ _ _ _ _ _ _ _ _ _)
      | (with_reducible exact backoff_All.mono _ _ _ _ _ _ _ _ _ _ _ _ _ _)
      | (with_reducible exact backoff_Wait.mono _ _ _ _)
      | (with_reducible exact knelllaw23_speaks.mono _)
      | (with_reducible exact LeO.refl _)
      | (with_reducible exact LeO.none _)
      | (with_reducible refine LeO.ite ?_ ?_)
      | (with_reducible refine LeO.bind ?_ (fun _ => ?_))
      | exact ih0 _ _ _ _ _ _ _ _ _ _ _ _ _ _
      | exact ih1 _ _ _ _ _ _ _ _ _ _ _ _ _ _ _ _ _
      | exact backoff_All.mono _ _ _ _ _ _ _ _ _ _ _ _ _ _
      | exact backoff_Wait.mono _ _ _ _
      | exact knelllaw23_speaks.mono _
      | exact LeO.none _
      | refine LeO.ite ?_ ?_
      | refine LeO.bind ?_ (fun _ => ?_)
set_option maxHeartbeats 8000000 in
set_option maxRecDepth 100000 in
theorem knelllaw23_BackoffAll.calls (k : Nat) (a0_0 : Int) (a0_1 : Int) (a0_2 : Int) (a0_3 : Int) (a0_4 : Int) (a0_5 : Int) (a0_6 : Int) (a0_7 : Int) (a0_8 : Int) (a0_9 : Int) (a0_10 : Int) (a0_11 : Int) (a0_12 : Int) (r : Bool) (w : World) (h : knelllaw23_BackoffAll.f k a0_0 a0_1 a0_2 a0_3 a0_4 a0_5 a0_6 a0_7 a0_8 a0_9 a0_10 a0_11 a0_12 = some r) :
    Calls Try.prog 5 #[.agg #[.int .i64 a0_0, .int .i64 a0_1, .int .i64 a0_2, .int .i64 a0_3, .int .i64 a0_4, .int .i64 a0_5, .int .i64 a0_6, .int .i64 a0_7, .int .i64 a0_8, .int .i64 a0_9, .int .i64 a0_10, .int .i64 a0_11, .int .i64 a0_12]] w fun e w' => e = .returned (.bool r) ∧ Below w.heap.size w w' := by
  have hu33 := Try.underlying33
  have hu36 := Try.underlying36
  have HB := Aside0.mk (Below.refl w.heap.size w)
  have H : ((knelllaw23_speaks.f k).bind fun t126 => (if t126 = true then ((knellref03_Right.f a0_0 a0_1 a0_2 a0_3 a0_4 a0_5 a0_6 a0_7 a0_8 a0_9 a0_10 a0_11 a0_12).bind fun t127 => (knelllaw23_BackoffAll.j0 k (!t127) a0_0 a0_1 a0_2 a0_3 a0_4 a0_5 a0_6 a0_7 a0_8 a0_9 a0_10 a0_11 a0_12)) else (knelllaw23_BackoffAll.j0 k true a0_0 a0_1 a0_2 a0_3 a0_4 a0_5 a0_6 a0_7 a0_8 a0_9 a0_10 a0_11 a0_12))) = some r := h
  clear h
  have HC2 := Aside0.mk H
  clear H
  go_enter Try.func5, Try.ntmps5
  go_upto_region 1 with (first | ((with_reducible refine gate_dst (N := 1) rfl ?_); refine box_event ?hg (N := 1) ?hd (cs := #[.int .i64 a0_0, .int .i64 a0_1, .int .i64 a0_2, .int .i64 a0_3, .int .i64 a0_4, .int .i64 a0_5, .int .i64 a0_6, .int .i64 a0_7, .int .i64 a0_8, .int .i64 a0_9, .int .i64 a0_10, .int .i64 a0_11, .int .i64 a0_12]) (t := 33) ?hr ?_; (case hd => rfl); (case hg => rfl); (case hr => first | (go_simp; done) | (go_simp; rfl)); intro gb125 hg w3 hbox hb; have n0_ := Aside0.mk (below_step (by repeat (first | (with_reducible first | exact HB.out | apply below_alloc | apply pw_below_drewN | apply below_drew1) | exact HB.out)) hb); have n1_ := Aside0.mk (hbox); have n2_ := Aside0.mk ((by rw [hg]; exact (below_size (by repeat (first | (with_reducible first | exact HB.out | apply below_alloc | apply pw_below_drewN | apply below_drew1) | exact HB.out))) : w.heap.size ≤ gb125)); have n3_ := Aside0.mk ((by rw [hg]; exact (below_size (by repeat (first | (with_reducible first | exact HB.out | apply below_alloc | apply pw_below_drewN | apply below_drew1) | exact HB.out))) : w.heap.size ≤ gb125)); clear HB; have HB := n0_; have BK125 := n1_; have GW125 := n2_; have GE125 := n3_; clear n0_ n1_ n2_ n3_; clear hb hbox hg))
  (try simp only [Act.put, List.setIfInBounds_toArray, List.set_cons_zero, List.set_cons_succ])
  go_cut [13] (fun v13 wc => ∃ (kq : Nat) (x13_1 : Bool), v13 = .bool x13_1 ∧ Aside0 (knelllaw23_BackoffAll.j0 kq x13_1 a0_0 a0_1 a0_2 a0_3 a0_4 a0_5 a0_6 a0_7 a0_8 a0_9 a0_10 a0_11 a0_12 = some r) ∧ Aside0 (kq ≤ k) ∧ Aside0 (wc.heap[gb125]? = some (.cells #[.int .i64 a0_0, .int .i64 a0_1, .int .i64 a0_2, .int .i64 a0_3, .int .i64 a0_4, .int .i64 a0_5, .int .i64 a0_6, .int .i64 a0_7, .int .i64 a0_8, .int .i64 a0_9, .int .i64 a0_10, .int .i64 a0_11, .int .i64 a0_12] 33 (0, 0))) ∧ Aside0 (Below w.heap.size w wc))
  case first =>
    have H := HC2.out
    clear HC2
    replace H := Option.bind_eq_some_iff.mp H
    obtain ⟨t126, A40, H⟩ := H
    replace H : (if t126 = true then ((knellref03_Right.f a0_0 a0_1 a0_2 a0_3 a0_4 a0_5 a0_6 a0_7 a0_8 a0_9 a0_10 a0_11 a0_12).bind fun t127 => (knelllaw23_BackoffAll.j0 k (!t127) a0_0 a0_1 a0_2 a0_3 a0_4 a0_5 a0_6 a0_7 a0_8 a0_9 a0_10 a0_11 a0_12)) else (knelllaw23_BackoffAll.j0 k true a0_0 a0_1 a0_2 a0_3 a0_4 a0_5 a0_6 a0_7 a0_8 a0_9 a0_10 a0_11 a0_12)) = some r := H
    have A4 := Aside0.mk A40
    clear A40
    by_cases c5 : t126 = true
    · subst c5
      have H1 : ((knellref03_Right.f a0_0 a0_1 a0_2 a0_3 a0_4 a0_5 a0_6 a0_7 a0_8 a0_9 a0_10 a0_11 a0_12).bind fun t127 => (knelllaw23_BackoffAll.j0 k (!t127) a0_0 a0_1 a0_2 a0_3 a0_4 a0_5 a0_6 a0_7 a0_8 a0_9 a0_10 a0_11 a0_12)) = some r := by rw [if_pos rfl] at H; exact H
      clear H
      have H := H1
      clear H1
      replace H := Option.bind_eq_some_iff.mp H
      obtain ⟨t127, A60, H⟩ := H
      replace H : (knelllaw23_BackoffAll.j0 k (!t127) a0_0 a0_1 a0_2 a0_3 a0_4 a0_5 a0_6 a0_7 a0_8 a0_9 a0_10 a0_11 a0_12) = some r := H
      have A6 := Aside0.mk A60
      clear A60
      have H' := Aside0.mk H
      clear H
      go_wp2_with (first | ((with_reducible refine gate_callee (f := 21) rfl ?_); refine goesL_ (some 7) rfl rfl Try.func21 (by kernel_rfl) rfl #[] rfl (by (try simp only [List.map_toArray, List.map_cons, List.map_nil]); first | done | rfl | (simp only [List.length_drop, List.length_take]; rfl)) ?_; (with_reducible refine (knelllaw23_speaks.calls k  true _ A4.out).mono ?_); rintro e w7 ⟨rfl, hb⟩; refine ⟨_, rfl, ?_⟩; have n0_ := Aside0.mk (blk_below (g := gb125) (o := .cells #[.int .i64 a0_0, .int .i64 a0_1, .int .i64 a0_2, .int .i64 a0_3, .int .i64 a0_4, .int .i64 a0_5, .int .i64 a0_6, .int .i64 a0_7, .int .i64 a0_8, .int .i64 a0_9, .int .i64 a0_10, .int .i64 a0_11, .int .i64 a0_12] 33 (0, 0)) (by (with_reducible repeat (first | refine blk_drewN ?_ _ | refine blk_drew ?_ | refine blk_alloc ?_ _)); exact BK125.out) hb); have n1_ := Aside0.mk (below_step (by repeat (first | (with_reducible first | exact HB.out | apply below_alloc | apply pw_below_drewN | apply below_drew1 | refine below_set ?_ GE125.out) | exact HB.out)) hb); clear BK125; clear HB; have BK125 := n0_; have HB := n1_; clear n0_ n1_; (try clear hb); (try clear hb2); (try clear hk); (try clear hi); have hcz8_0 : w7.cell? ⟨gb125, 0, none⟩ = some (.int .i64 a0_0) := (blk_cell BK125.out 0).trans rfl; have hcz8_1 : w7.cell? ⟨gb125, 1, none⟩ = some (.int .i64 a0_1) := (blk_cell BK125.out 1).trans rfl; have hcz8_2 : w7.cell? ⟨gb125, 2, none⟩ = some (.int .i64 a0_2) := (blk_cell BK125.out 2).trans rfl; have hcz8_3 : w7.cell? ⟨gb125, 3, none⟩ = some (.int .i64 a0_3) := (blk_cell BK125.out 3).trans rfl; have hcz8_4 : w7.cell? ⟨gb125, 4, none⟩ = some (.int .i64 a0_4) := (blk_cell BK125.out 4).trans rfl; have hcz8_5 : w7.cell? ⟨gb125, 5, none⟩ = some (.int .i64 a0_5) := (blk_cell BK125.out 5).trans rfl; have hcz8_6 : w7.cell? ⟨gb125, 6, none⟩ = some (.int .i64 a0_6) := (blk_cell BK125.out 6).trans rfl; have hcz8_7 : w7.cell? ⟨gb125, 7, none⟩ = some (.int .i64 a0_7) := (blk_cell BK125.out 7).trans rfl; have hcz8_8 : w7.cell? ⟨gb125, 8, none⟩ = some (.int .i64 a0_8) := (blk_cell BK125.out 8).trans rfl; have hcz8_9 : w7.cell? ⟨gb125, 9, none⟩ = some (.int .i64 a0_9) := (blk_cell BK125.out 9).trans rfl; have hcz8_10 : w7.cell? ⟨gb125, 10, none⟩ = some (.int .i64 a0_10) := (blk_cell BK125.out 10).trans rfl; have hcz8_11 : w7.cell? ⟨gb125, 11, none⟩ = some (.int .i64 a0_11) := (blk_cell BK125.out 11).trans rfl; have hcz8_12 : w7.cell? ⟨gb125, 12, none⟩ = some (.int .i64 a0_12) := (blk_cell BK125.out 12).trans rfl; have hfz8_0 := blk_frozen BK125.out 0; have hfz8_1 := blk_frozen BK125.out 1; have hfz8_2 := blk_frozen BK125.out 2; have hfz8_3 := blk_frozen BK125.out 3; have hfz8_4 := blk_frozen BK125.out 4; have hfz8_5 := blk_frozen BK125.out 5; have hfz8_6 := blk_frozen BK125.out 6; have hfz8_7 := blk_frozen BK125.out 7; have hfz8_8 := blk_frozen BK125.out 8; have hfz8_9 := blk_frozen BK125.out 9; have hfz8_10 := blk_frozen BK125.out 10; have hfz8_11 := blk_frozen BK125.out 11; have hfz8_12 := blk_frozen BK125.out 12) | (go_at_call 22; (with_reducible refine (knellref03_Right.calls a0_0 a0_1 a0_2 a0_3 a0_4 a0_5 a0_6 a0_7 a0_8 a0_9 a0_10 a0_11 a0_12 t127 _ A6.out).mono ?_); rintro e w9 ⟨rfl, hb⟩; have n0_ := Aside0.mk (blk_below (g := gb125) (o := .cells #[.int .i64 a0_0, .int .i64 a0_1, .int .i64 a0_2, .int .i64 a0_3, .int .i64 a0_4, .int .i64 a0_5, .int .i64 a0_6, .int .i64 a0_7, .int .i64 a0_8, .int .i64 a0_9, .int .i64 a0_10, .int .i64 a0_11, .int .i64 a0_12] 33 (0, 0)) (by (with_reducible repeat (first | refine blk_drewN ?_ _ | refine blk_drew ?_ | refine blk_alloc ?_ _)); exact BK125.out) hb); have n1_ := Aside0.mk (below_step (by repeat (first | (with_reducible first | exact HB.out | apply below_alloc | apply pw_below_drewN | apply below_drew1 | refine below_set ?_ GE125.out) | exact HB.out)) hb); clear BK125; clear HB; have BK125 := n0_; have HB := n1_; clear n0_ n1_; (try clear hb); (try clear hb2); (try clear hk); (try clear hi)))
      go_meet
      case rel => exact ⟨_, (!t127), (by first | rfl | (simp; done) | (simp [*]; done)), H', ⟨by first | omega | exact Nat.le_refl _⟩, ⟨by (with_reducible repeat (first | refine blk_drewN ?_ _ | refine blk_drew ?_ | refine blk_alloc ?_ _)); exact BK125.out⟩, ⟨by repeat (first | (with_reducible first | exact HB.out | apply below_alloc | apply pw_below_drewN | apply below_drew1 | refine below_set ?_ GE125.out) | exact HB.out)⟩⟩
    · replace c5 := Bool.eq_false_iff.mpr c5
      subst c5
      have H1 : (knelllaw23_BackoffAll.j0 k true a0_0 a0_1 a0_2 a0_3 a0_4 a0_5 a0_6 a0_7 a0_8 a0_9 a0_10 a0_11 a0_12) = some r := by rw [if_neg (show ¬ (false = true) by decide)] at H; exact H
      clear H
      have H := H1
      clear H1
      have H' := Aside0.mk H
      clear H
      go_wp2_with (first | ((with_reducible refine gate_callee (f := 21) rfl ?_); refine goesL_ (some 7) rfl rfl Try.func21 (by kernel_rfl) rfl #[] rfl (by (try simp only [List.map_toArray, List.map_cons, List.map_nil]); first | done | rfl | (simp only [List.length_drop, List.length_take]; rfl)) ?_; (with_reducible refine (knelllaw23_speaks.calls k  false _ A4.out).mono ?_); rintro e w10 ⟨rfl, hb⟩; refine ⟨_, rfl, ?_⟩; have n0_ := Aside0.mk (blk_below (g := gb125) (o := .cells #[.int .i64 a0_0, .int .i64 a0_1, .int .i64 a0_2, .int .i64 a0_3, .int .i64 a0_4, .int .i64 a0_5, .int .i64 a0_6, .int .i64 a0_7, .int .i64 a0_8, .int .i64 a0_9, .int .i64 a0_10, .int .i64 a0_11, .int .i64 a0_12] 33 (0, 0)) (by (with_reducible repeat (first | refine blk_drewN ?_ _ | refine blk_drew ?_ | refine blk_alloc ?_ _)); exact BK125.out) hb); have n1_ := Aside0.mk (below_step (by repeat (first | (with_reducible first | exact HB.out | apply below_alloc | apply pw_below_drewN | apply below_drew1 | refine below_set ?_ GE125.out) | exact HB.out)) hb); clear BK125; clear HB; have BK125 := n0_; have HB := n1_; clear n0_ n1_; (try clear hb); (try clear hb2); (try clear hk); (try clear hi)))
      go_meet
      case rel => exact ⟨_, (true), (by first | rfl | (simp; done) | (simp [*]; done)), H', ⟨by first | omega | exact Nat.le_refl _⟩, ⟨by (with_reducible repeat (first | refine blk_drewN ?_ _ | refine blk_drew ?_ | refine blk_alloc ?_ _)); exact BK125.out⟩, ⟨by repeat (first | (with_reducible first | exact HB.out | apply below_alloc | apply pw_below_drewN | apply below_drew1 | refine below_set ?_ GE125.out) | exact HB.out)⟩⟩
  case rest =>
    clear HC2
    try clear c2
    try clear p2
    try clear c5
    try clear hcz8_0
    try clear hcz8_1
    try clear hcz8_10
    try clear hcz8_11
    try clear hcz8_12
    try clear hcz8_2
    try clear hcz8_3
    try clear hcz8_4
    try clear hcz8_5
    try clear hcz8_6
    try clear hcz8_7
    try clear hcz8_8
    try clear hcz8_9
    try clear hfz8_0
    try clear hfz8_1
    try clear hfz8_10
    try clear hfz8_11
    try clear hfz8_12
    try clear hfz8_2
    try clear hfz8_3
    try clear hfz8_4
    try clear hfz8_5
    try clear hfz8_6
    try clear hfz8_7
    try clear hfz8_8
    try clear hfz8_9
    obtain ⟨kq, x13_1, rfl, HA, HJ1, BK125, HB⟩ := hcut
    cases kq with
    | zero => exact absurd HA.out (by simp [knelllaw23_BackoffAll.j0])
    | succ kj1 =>
      have H := HA.out
      clear HA
      simp only [knelllaw23_BackoffAll.j0] at H
      by_cases c11 : x13_1 = true
      · subst c11
        have H1 : ((knelllaw23_speaks.f kj1).bind fun t128 => (some t128)) = some r := by rw [if_pos rfl] at H; exact H
        clear H
        have H := H1
        clear H1
        replace H := Option.bind_eq_some_iff.mp H
        obtain ⟨t128, A120, H⟩ := H
        replace H : (some t128) = some r := H
        have A12 := Aside0.mk A120
        clear A120
        obtain rfl := Option.some.inj H
        go_wp2_with (first | ((with_reducible refine gate_callee (f := 21) rfl ?_); refine goesL_ (some 14) rfl rfl Try.func21 (by kernel_rfl) rfl #[] rfl (by (try simp only [List.map_toArray, List.map_cons, List.map_nil]); first | done | rfl | (simp only [List.length_drop, List.length_take]; rfl)) ?_; (with_reducible refine (knelllaw23_speaks.calls kj1  t128 _ A12.out).mono ?_); rintro e w13 ⟨rfl, hb⟩; refine ⟨_, rfl, ?_⟩; have n0_ := Aside0.mk (blk_below (g := gb125) (o := .cells #[.int .i64 a0_0, .int .i64 a0_1, .int .i64 a0_2, .int .i64 a0_3, .int .i64 a0_4, .int .i64 a0_5, .int .i64 a0_6, .int .i64 a0_7, .int .i64 a0_8, .int .i64 a0_9, .int .i64 a0_10, .int .i64 a0_11, .int .i64 a0_12] 33 (0, 0)) (by (with_reducible repeat (first | refine blk_drewN ?_ _ | refine blk_drew ?_ | refine blk_alloc ?_ _)); exact BK125.out) hb); have n1_ := Aside0.mk (below_step (by repeat (first | (with_reducible first | exact HB.out | apply below_alloc | apply pw_below_drewN | apply below_drew1 | refine below_set ?_ GE125.out) | exact HB.out)) hb); clear BK125; clear HB; have BK125 := n0_; have HB := n1_; clear n0_ n1_; (try clear hb); (try clear hb2); (try clear hk); (try clear hi)))
        go_ret
        exact ⟨by first | rfl | (simp [errW_none, errW_some] <;> rfl) | (simp [*, errW_none, errW_some] <;> rfl), by repeat (first | (with_reducible first | exact HB.out | apply below_alloc | apply pw_below_drewN | apply below_drew1 | refine below_set ?_ GE125.out) | exact HB.out)⟩
      · replace c11 := Bool.eq_false_iff.mpr c11
        subst c11
        have H1 : ((knelllaw03_Of.f a0_0 a0_1 a0_2 a0_3 a0_4 a0_5 a0_6 a0_7 a0_8 a0_9 a0_10 a0_11 a0_12).bind fun bt129 => ((backoff_All.f kj1 bt129.1 bt129.2.1 bt129.2.2.1 bt129.2.2.2.1 bt129.2.2.2.2.1 bt129.2.2.2.2.2.1 bt129.2.2.2.2.2.2.1 bt129.2.2.2.2.2.2.2.1 bt129.2.2.2.2.2.2.2.2.1 bt129.2.2.2.2.2.2.2.2.2.1 bt129.2.2.2.2.2.2.2.2.2.2.1 bt129.2.2.2.2.2.2.2.2.2.2.2.1 bt129.2.2.2.2.2.2.2.2.2.2.2.2).bind fun t143 => (if (t143.length : Int) = bt129.2.2.2.2.2.2.2.2.2.2.2.2 then (knelllaw23_BackoffAll.l0 kj1 t143 t143 (t143.length : Int) 0 bt129.1 bt129.2.1 bt129.2.2.1 bt129.2.2.2.1 bt129.2.2.2.2.1 bt129.2.2.2.2.2.1 bt129.2.2.2.2.2.2.1 bt129.2.2.2.2.2.2.2.1 bt129.2.2.2.2.2.2.2.2.1 bt129.2.2.2.2.2.2.2.2.2.1 bt129.2.2.2.2.2.2.2.2.2.2.1 bt129.2.2.2.2.2.2.2.2.2.2.2.1 bt129.2.2.2.2.2.2.2.2.2.2.2.2) else (some false)))) = some r := by rw [if_neg (show ¬ (false = true) by decide)] at H; exact H
        clear H
        have H := H1
        clear H1
        replace H := Option.bind_eq_some_iff.mp H
        obtain ⟨⟨t129, t130, t131, t132, t133, t134, t135, t136, t137, t138, t139, t140, t141⟩, A140, H⟩ := H
        replace H : ((backoff_All.f kj1 t129 t130 t131 t132 t133 t134 t135 t136 t137 t138 t139 t140 t141).bind fun t143 => (if (t143.length : Int) = t141 then (knelllaw23_BackoffAll.l0 kj1 t143 t143 (t143.length : Int) 0 t129 t130 t131 t132 t133 t134 t135 t136 t137 t138 t139 t140 t141) else (some false))) = some r := H
        have A14 := Aside0.mk A140
        clear A140
        replace H := Option.bind_eq_some_iff.mp H
        obtain ⟨t143, A150, H⟩ := H
        replace H : (if (t143.length : Int) = t141 then (knelllaw23_BackoffAll.l0 kj1 t143 t143 (t143.length : Int) 0 t129 t130 t131 t132 t133 t134 t135 t136 t137 t138 t139 t140 t141) else (some false)) = some r := H
        have A15 := Aside0.mk A150
        clear A150
        by_cases c16 : (t143.length : Int) = t141
        · rw [if_pos c16] at H
          have c16b0 : ((t143.length : Int) == t141) = true := beq_iff_eq.mpr c16
          have c16b1 : ((t143.length : Int) != t141) = false := bne_eq_false_iff_eq.mpr c16
          clear c16
          have H' := Aside0.mk H
          clear H
          have hcz17_0 : wc.cell? ⟨gb125, 0, none⟩ = some (.int .i64 a0_0) := (blk_cell BK125.out 0).trans rfl
          have hcz17_1 : wc.cell? ⟨gb125, 1, none⟩ = some (.int .i64 a0_1) := (blk_cell BK125.out 1).trans rfl
          have hcz17_2 : wc.cell? ⟨gb125, 2, none⟩ = some (.int .i64 a0_2) := (blk_cell BK125.out 2).trans rfl
          have hcz17_3 : wc.cell? ⟨gb125, 3, none⟩ = some (.int .i64 a0_3) := (blk_cell BK125.out 3).trans rfl
          have hcz17_4 : wc.cell? ⟨gb125, 4, none⟩ = some (.int .i64 a0_4) := (blk_cell BK125.out 4).trans rfl
          have hcz17_5 : wc.cell? ⟨gb125, 5, none⟩ = some (.int .i64 a0_5) := (blk_cell BK125.out 5).trans rfl
          have hcz17_6 : wc.cell? ⟨gb125, 6, none⟩ = some (.int .i64 a0_6) := (blk_cell BK125.out 6).trans rfl
          have hcz17_7 : wc.cell? ⟨gb125, 7, none⟩ = some (.int .i64 a0_7) := (blk_cell BK125.out 7).trans rfl
          have hcz17_8 : wc.cell? ⟨gb125, 8, none⟩ = some (.int .i64 a0_8) := (blk_cell BK125.out 8).trans rfl
          have hcz17_9 : wc.cell? ⟨gb125, 9, none⟩ = some (.int .i64 a0_9) := (blk_cell BK125.out 9).trans rfl
          have hcz17_10 : wc.cell? ⟨gb125, 10, none⟩ = some (.int .i64 a0_10) := (blk_cell BK125.out 10).trans rfl
          have hcz17_11 : wc.cell? ⟨gb125, 11, none⟩ = some (.int .i64 a0_11) := (blk_cell BK125.out 11).trans rfl
          have hcz17_12 : wc.cell? ⟨gb125, 12, none⟩ = some (.int .i64 a0_12) := (blk_cell BK125.out 12).trans rfl
          have hfz17_0 := blk_frozen BK125.out 0
          have hfz17_1 := blk_frozen BK125.out 1
          have hfz17_2 := blk_frozen BK125.out 2
          have hfz17_3 := blk_frozen BK125.out 3
          have hfz17_4 := blk_frozen BK125.out 4
          have hfz17_5 := blk_frozen BK125.out 5
          have hfz17_6 := blk_frozen BK125.out 6
          have hfz17_7 := blk_frozen BK125.out 7
          have hfz17_8 := blk_frozen BK125.out 8
          have hfz17_9 := blk_frozen BK125.out 9
          have hfz17_10 := blk_frozen BK125.out 10
          have hfz17_11 := blk_frozen BK125.out 11
          have hfz17_12 := blk_frozen BK125.out 12
          go_wp2_with (first | ((with_reducible refine gate_callee (f := 23) rfl ?_); refine goesL_ (some 16) rfl rfl Try.func23 (by kernel_rfl) rfl #[.agg #[.int .i64 a0_0, .int .i64 a0_1, .int .i64 a0_2, .int .i64 a0_3, .int .i64 a0_4, .int .i64 a0_5, .int .i64 a0_6, .int .i64 a0_7, .int .i64 a0_8, .int .i64 a0_9, .int .i64 a0_10, .int .i64 a0_11, .int .i64 a0_12]] rfl (by (try simp only [List.map_toArray, List.map_cons, List.map_nil]); first | done | rfl | (simp only [List.length_drop, List.length_take]; rfl)) ?_; (with_reducible refine (knelllaw03_Of.calls a0_0 a0_1 a0_2 a0_3 a0_4 a0_5 a0_6 a0_7 a0_8 a0_9 a0_10 a0_11 a0_12 t129 t130 t131 t132 t133 t134 t135 t136 t137 t138 t139 t140 t141 _ A14.out).mono ?_); rintro e w18 ⟨rfl, hb⟩; refine ⟨_, rfl, ?_⟩; have n0_ := Aside0.mk (blk_below (g := gb125) (o := .cells #[.int .i64 a0_0, .int .i64 a0_1, .int .i64 a0_2, .int .i64 a0_3, .int .i64 a0_4, .int .i64 a0_5, .int .i64 a0_6, .int .i64 a0_7, .int .i64 a0_8, .int .i64 a0_9, .int .i64 a0_10, .int .i64 a0_11, .int .i64 a0_12] 33 (0, 0)) (by (with_reducible repeat (first | refine blk_drewN ?_ _ | refine blk_drew ?_ | refine blk_alloc ?_ _)); exact BK125.out) hb); have n1_ := Aside0.mk (below_step (by repeat (first | (with_reducible first | exact HB.out | apply below_alloc | apply pw_below_drewN | apply below_drew1 | refine below_set ?_ GE125.out) | exact HB.out)) hb); clear BK125; clear HB; have BK125 := n0_; have HB := n1_; clear n0_ n1_; (try clear hb); (try clear hb2); (try clear hk); (try clear hi)) | ((with_reducible refine gate_dst (N := 3) rfl ?_); refine box_event ?hg (N := 3) ?hd (cs := #[.int .i64 0, .int .i64 0, .int .i64 0, .int .i64 0, .int .i64 0, .int .i64 0, .int .i64 0, .int .i64 0, .int .i64 0, .int .i64 0, .int .i64 0, .int .i64 0, .int .i64 0]) (t := 36) ?hr ?_; (case hd => rfl); (case hg => rfl); (case hr => first | (go_simp; done) | (go_simp; rfl)); intro gb142 hg w19 hbox hb; have n0_ := Aside0.mk (blk_below (g := gb125) (o := .cells #[.int .i64 a0_0, .int .i64 a0_1, .int .i64 a0_2, .int .i64 a0_3, .int .i64 a0_4, .int .i64 a0_5, .int .i64 a0_6, .int .i64 a0_7, .int .i64 a0_8, .int .i64 a0_9, .int .i64 a0_10, .int .i64 a0_11, .int .i64 a0_12] 33 (0, 0)) (by (with_reducible repeat (first | refine blk_drewN ?_ _ | refine blk_drew ?_ | refine blk_alloc ?_ _)); exact BK125.out) hb); have n1_ := Aside0.mk (below_step (by repeat (first | (with_reducible first | exact HB.out | apply below_alloc | apply pw_below_drewN | apply below_drew1 | refine below_set ?_ GE125.out) | exact HB.out)) hb); have n2_ := Aside0.mk (hbox); have n3_ := Aside0.mk ((by rw [hg]; exact (below_size (by repeat (first | (with_reducible first | exact HB.out | apply below_alloc | apply pw_below_drewN | apply below_drew1 | refine below_set ?_ GE125.out) | exact HB.out))) : w.heap.size ≤ gb142)); have n4_ := Aside0.mk ((by rw [hg]; exact (below_size (by repeat (first | (with_reducible first | exact HB.out | apply below_alloc | apply pw_below_drewN | apply below_drew1 | refine below_set ?_ GE125.out) | exact HB.out))) : w.heap.size ≤ gb142)); have n5_ := Aside0.mk ((by rw [hg]; exact Nat.ne_of_lt (blk_lt (g := gb125) (o := .cells #[.int .i64 a0_0, .int .i64 a0_1, .int .i64 a0_2, .int .i64 a0_3, .int .i64 a0_4, .int .i64 a0_5, .int .i64 a0_6, .int .i64 a0_7, .int .i64 a0_8, .int .i64 a0_9, .int .i64 a0_10, .int .i64 a0_11, .int .i64 a0_12] 33 (0, 0)) (by (with_reducible repeat (first | refine blk_drewN ?_ _ | refine blk_drew ?_ | refine blk_alloc ?_ _)); exact BK125.out)) : gb125 ≠ gb142)); have n6_ := Aside0.mk ((by rw [hg]; exact Nat.ne_of_gt (blk_lt (g := gb125) (o := .cells #[.int .i64 a0_0, .int .i64 a0_1, .int .i64 a0_2, .int .i64 a0_3, .int .i64 a0_4, .int .i64 a0_5, .int .i64 a0_6, .int .i64 a0_7, .int .i64 a0_8, .int .i64 a0_9, .int .i64 a0_10, .int .i64 a0_11, .int .i64 a0_12] 33 (0, 0)) (by (with_reducible repeat (first | refine blk_drewN ?_ _ | refine blk_drew ?_ | refine blk_alloc ?_ _)); exact BK125.out)) : gb142 ≠ gb125)); clear BK125; clear HB; have BK125 := n0_; have HB := n1_; have BK142 := n2_; have GW142 := n3_; have GE142 := n4_; have NB125_142 := n5_; have NB142_125 := n6_; clear n0_ n1_ n2_ n3_ n4_ n5_ n6_; clear hb hbox hg; have hnb20 := NB142_125.out; have hnc20 := NB125_142.out; have hcz21_0 : w19.cell? ⟨gb142, 0, none⟩ = some (.int .i64 0) := (blk_cell BK142.out 0).trans rfl; have hcz21_1 : w19.cell? ⟨gb142, 1, none⟩ = some (.int .i64 0) := (blk_cell BK142.out 1).trans rfl; have hcz21_2 : w19.cell? ⟨gb142, 2, none⟩ = some (.int .i64 0) := (blk_cell BK142.out 2).trans rfl; have hcz21_3 : w19.cell? ⟨gb142, 3, none⟩ = some (.int .i64 0) := (blk_cell BK142.out 3).trans rfl; have hcz21_4 : w19.cell? ⟨gb142, 4, none⟩ = some (.int .i64 0) := (blk_cell BK142.out 4).trans rfl; have hcz21_5 : w19.cell? ⟨gb142, 5, none⟩ = some (.int .i64 0) := (blk_cell BK142.out 5).trans rfl; have hcz21_6 : w19.cell? ⟨gb142, 6, none⟩ = some (.int .i64 0) := (blk_cell BK142.out 6).trans rfl; have hcz21_7 : w19.cell? ⟨gb142, 7, none⟩ = some (.int .i64 0) := (blk_cell BK142.out 7).trans rfl; have hcz21_8 : w19.cell? ⟨gb142, 8, none⟩ = some (.int .i64 0) := (blk_cell BK142.out 8).trans rfl; have hcz21_9 : w19.cell? ⟨gb142, 9, none⟩ = some (.int .i64 0) := (blk_cell BK142.out 9).trans rfl; have hcz21_10 : w19.cell? ⟨gb142, 10, none⟩ = some (.int .i64 0) := (blk_cell BK142.out 10).trans rfl; have hcz21_11 : w19.cell? ⟨gb142, 11, none⟩ = some (.int .i64 0) := (blk_cell BK142.out 11).trans rfl; have hcz21_12 : w19.cell? ⟨gb142, 12, none⟩ = some (.int .i64 0) := (blk_cell BK142.out 12).trans rfl; have hfz21_0 := blk_frozen BK142.out 0; have hfz21_1 := blk_frozen BK142.out 1; have hfz21_2 := blk_frozen BK142.out 2; have hfz21_3 := blk_frozen BK142.out 3; have hfz21_4 := blk_frozen BK142.out 4; have hfz21_5 := blk_frozen BK142.out 5; have hfz21_6 := blk_frozen BK142.out 6; have hfz21_7 := blk_frozen BK142.out 7; have hfz21_8 := blk_frozen BK142.out 8; have hfz21_9 := blk_frozen BK142.out 9; have hfz21_10 := blk_frozen BK142.out 10; have hfz21_11 := blk_frozen BK142.out 11; have hfz21_12 := blk_frozen BK142.out 12) | ((with_reducible refine gate_callee (f := 24) rfl ?_); refine goesL_ (some 18) rfl rfl Try.func24 (by kernel_rfl) rfl #[.agg #[.int .i64 t129, .int .i64 t130, .int .i64 t131, .int .i64 t132, .int .i64 t133, .int .i64 t134, .int .i64 t135, .int .i64 t136, .int .i64 t137, .int .i64 t138, .int .i64 t139, .int .i64 t140, .int .i64 t141]] rfl (by (try simp only [List.map_toArray, List.map_cons, List.map_nil]); first | done | rfl | (simp only [List.length_drop, List.length_take]; rfl)) ?_; (with_reducible refine (backoff_All.calls kj1 t129 t130 t131 t132 t133 t134 t135 t136 t137 t138 t139 t140 t141 t143 _ A15.out).mono ?_); rintro e w22 ⟨v144, rfl, ho0, hb⟩; refine ⟨_, rfl, ?_⟩; have n0_ := Aside0.mk (Kd.R_lower ho0 (below_size (by repeat (first | (with_reducible first | exact HB.out | apply below_alloc | apply pw_below_drewN | apply below_drew1 | refine below_set ?_ GE125.out | refine below_set ?_ GE142.out) | exact HB.out)))); have n1_ := Aside0.mk (blk_below (g := gb125) (o := .cells #[.int .i64 a0_0, .int .i64 a0_1, .int .i64 a0_2, .int .i64 a0_3, .int .i64 a0_4, .int .i64 a0_5, .int .i64 a0_6, .int .i64 a0_7, .int .i64 a0_8, .int .i64 a0_9, .int .i64 a0_10, .int .i64 a0_11, .int .i64 a0_12] 33 (0, 0)) (by (with_reducible repeat (first | refine blk_drewN ?_ _ | refine blk_drew ?_ | refine blk_alloc ?_ _)); refine blk_far ?_ NB125_142.out _; (with_reducible repeat (first | refine blk_drewN ?_ _ | refine blk_drew ?_ | refine blk_alloc ?_ _)); refine blk_far ?_ NB125_142.out _; (with_reducible repeat (first | refine blk_drewN ?_ _ | refine blk_drew ?_ | refine blk_alloc ?_ _)); refine blk_far ?_ NB125_142.out _; (with_reducible repeat (first | refine blk_drewN ?_ _ | refine blk_drew ?_ | refine blk_alloc ?_ _)); refine blk_far ?_ NB125_142.out _; (with_reducible repeat (first | refine blk_drewN ?_ _ | refine blk_drew ?_ | refine blk_alloc ?_ _)); refine blk_far ?_ NB125_142.out _; (with_reducible repeat (first | refine blk_drewN ?_ _ | refine blk_drew ?_ | refine blk_alloc ?_ _)); refine blk_far ?_ NB125_142.out _; (with_reducible repeat (first | refine blk_drewN ?_ _ | refine blk_drew ?_ | refine blk_alloc ?_ _)); refine blk_far ?_ NB125_142.out _; (with_reducible repeat (first | refine blk_drewN ?_ _ | refine blk_drew ?_ | refine blk_alloc ?_ _)); refine blk_far ?_ NB125_142.out _; (with_reducible repeat (first | refine blk_drewN ?_ _ | refine blk_drew ?_ | refine blk_alloc ?_ _)); refine blk_far ?_ NB125_142.out _; (with_reducible repeat (first | refine blk_drewN ?_ _ | refine blk_drew ?_ | refine blk_alloc ?_ _)); refine blk_far ?_ NB125_142.out _; (with_reducible repeat (first | refine blk_drewN ?_ _ | refine blk_drew ?_ | refine blk_alloc ?_ _)); refine blk_far ?_ NB125_142.out _; (with_reducible repeat (first | refine blk_drewN ?_ _ | refine blk_drew ?_ | refine blk_alloc ?_ _)); refine blk_far ?_ NB125_142.out _; (with_reducible repeat (first | refine blk_drewN ?_ _ | refine blk_drew ?_ | refine blk_alloc ?_ _)); refine blk_far ?_ NB125_142.out _; (with_reducible repeat (first | refine blk_drewN ?_ _ | refine blk_drew ?_ | refine blk_alloc ?_ _)); exact BK125.out) hb); have n2_ := Aside0.mk (blk_below (g := gb142) (o := .cells #[.int .i64 t129, .int .i64 t130, .int .i64 t131, .int .i64 t132, .int .i64 t133, .int .i64 t134, .int .i64 t135, .int .i64 t136, .int .i64 t137, .int .i64 t138, .int .i64 t139, .int .i64 t140, .int .i64 t141] 36 (0, 0)) (by (with_reducible repeat (first | refine blk_drewN ?_ _ | refine blk_drew ?_ | refine blk_alloc ?_ _)); refine blk_put (cs := #[.int .i64 t129, .int .i64 t130, .int .i64 t131, .int .i64 t132, .int .i64 t133, .int .i64 t134, .int .i64 t135, .int .i64 t136, .int .i64 t137, .int .i64 t138, .int .i64 t139, .int .i64 t140, .int .i64 0]) ?_ 12 _ rfl; (with_reducible repeat (first | refine blk_drewN ?_ _ | refine blk_drew ?_ | refine blk_alloc ?_ _)); refine blk_put (cs := #[.int .i64 t129, .int .i64 t130, .int .i64 t131, .int .i64 t132, .int .i64 t133, .int .i64 t134, .int .i64 t135, .int .i64 t136, .int .i64 t137, .int .i64 t138, .int .i64 t139, .int .i64 0, .int .i64 0]) ?_ 11 _ rfl; (with_reducible repeat (first | refine blk_drewN ?_ _ | refine blk_drew ?_ | refine blk_alloc ?_ _)); refine blk_put (cs := #[.int .i64 t129, .int .i64 t130, .int .i64 t131, .int .i64 t132, .int .i64 t133, .int .i64 t134, .int .i64 t135, .int .i64 t136, .int .i64 t137, .int .i64 t138, .int .i64 0, .int .i64 0, .int .i64 0]) ?_ 10 _ rfl; (with_reducible repeat (first | refine blk_drewN ?_ _ | refine blk_drew ?_ | refine blk_alloc ?_ _)); refine blk_put (cs := #[.int .i64 t129, .int .i64 t130, .int .i64 t131, .int .i64 t132, .int .i64 t133, .int .i64 t134, .int .i64 t135, .int .i64 t136, .int .i64 t137, .int .i64 0, .int .i64 0, .int .i64 0, .int .i64 0]) ?_ 9 _ rfl; (with_reducible repeat (first | refine blk_drewN ?_ _ | refine blk_drew ?_ | refine blk_alloc ?_ _)); refine blk_put (cs := #[.int .i64 t129, .int .i64 t130, .int .i64 t131, .int .i64 t132, .int .i64 t133, .int .i64 t134, .int .i64 t135, .int .i64 t136, .int .i64 0, .int .i64 0, .int .i64 0, .int .i64 0, .int .i64 0]) ?_ 8 _ rfl; (with_reducible repeat (first | refine blk_drewN ?_ _ | refine blk_drew ?_ | refine blk_alloc ?_ _)); refine blk_put (cs := #[.int .i64 t129, .int .i64 t130, .int .i64 t131, .int .i64 t132, .int .i64 t133, .int .i64 t134, .int .i64 t135, .int .i64 0, .int .i64 0, .int .i64 0, .int .i64 0, .int .i64 0, .int .i64 0]) ?_ 7 _ rfl; (with_reducible repeat (first | refine blk_drewN ?_ _ | refine blk_drew ?_ | refine blk_alloc ?_ _)); refine blk_put (cs := #[.int .i64 t129, .int .i64 t130, .int .i64 t131, .int .i64 t132, .int .i64 t133, .int .i64 t134, .int .i64 0, .int .i64 0, .int .i64 0, .int .i64 0, .int .i64 0, .int .i64 0, .int .i64 0]) ?_ 6 _ rfl; (with_reducible repeat (first | refine blk_drewN ?_ _ | refine blk_drew ?_ | refine blk_alloc ?_ _)); refine blk_put (cs := #[.int .i64 t129, .int .i64 t130, .int .i64 t131, .int .i64 t132, .int .i64 t133, .int .i64 0, .int .i64 0, .int .i64 0, .int .i64 0, .int .i64 0, .int .i64 0, .int .i64 0, .int .i64 0]) ?_ 5 _ rfl; (with_reducible repeat (first | refine blk_drewN ?_ _ | refine blk_drew ?_ | refine blk_alloc ?_ _)); refine blk_put (cs := #[.int .i64 t129, .int .i64 t130, .int .i64 t131, .int .i64 t132, .int .i64 0, .int .i64 0, .int .i64 0, .int .i64 0, .int .i64 0, .int .i64 0, .int .i64 0, .int .i64 0, .int .i64 0]) ?_ 4 _ rfl; (with_reducible repeat (first | refine blk_drewN ?_ _ | refine blk_drew ?_ | refine blk_alloc ?_ _)); refine blk_put (cs := #[.int .i64 t129, .int .i64 t130, .int .i64 t131, .int .i64 0, .int .i64 0, .int .i64 0, .int .i64 0, .int .i64 0, .int .i64 0, .int .i64 0, .int .i64 0, .int .i64 0, .int .i64 0]) ?_ 3 _ rfl; (with_reducible repeat (first | refine blk_drewN ?_ _ | refine blk_drew ?_ | refine blk_alloc ?_ _)); refine blk_put (cs := #[.int .i64 t129, .int .i64 t130, .int .i64 0, .int .i64 0, .int .i64 0, .int .i64 0, .int .i64 0, .int .i64 0, .int .i64 0, .int .i64 0, .int .i64 0, .int .i64 0, .int .i64 0]) ?_ 2 _ rfl; (with_reducible repeat (first | refine blk_drewN ?_ _ | refine blk_drew ?_ | refine blk_alloc ?_ _)); refine blk_put (cs := #[.int .i64 t129, .int .i64 0, .int .i64 0, .int .i64 0, .int .i64 0, .int .i64 0, .int .i64 0, .int .i64 0, .int .i64 0, .int .i64 0, .int .i64 0, .int .i64 0, .int .i64 0]) ?_ 1 _ rfl; (with_reducible repeat (first | refine blk_drewN ?_ _ | refine blk_drew ?_ | refine blk_alloc ?_ _)); refine blk_put (cs := #[.int .i64 0, .int .i64 0, .int .i64 0, .int .i64 0, .int .i64 0, .int .i64 0, .int .i64 0, .int .i64 0, .int .i64 0, .int .i64 0, .int .i64 0, .int .i64 0, .int .i64 0]) ?_ 0 _ rfl; (with_reducible repeat (first | refine blk_drewN ?_ _ | refine blk_drew ?_ | refine blk_alloc ?_ _)); exact BK142.out) hb); have n3_ := Aside0.mk (below_step (by repeat (first | (with_reducible first | exact HB.out | apply below_alloc | apply pw_below_drewN | apply below_drew1 | refine below_set ?_ GE125.out | refine below_set ?_ GE142.out) | exact HB.out)) hb); clear BK125; clear BK142; clear HB; have HO145 := n0_; have BK125 := n1_; have BK142 := n2_; have HB := n3_; clear n0_ n1_ n2_ n3_; (try clear hb); (try clear hb2); (try clear hk); (try clear hi); (try clear ho0); obtain ⟨Ao23, co23, eo23⟩ := Kd.R_slice HO145.out; subst eo23; have hcz24_0 : w22.cell? ⟨gb142, 0, none⟩ = some (.int .i64 t129) := (blk_cell BK142.out 0).trans rfl; have hcz24_1 : w22.cell? ⟨gb142, 1, none⟩ = some (.int .i64 t130) := (blk_cell BK142.out 1).trans rfl; have hcz24_2 : w22.cell? ⟨gb142, 2, none⟩ = some (.int .i64 t131) := (blk_cell BK142.out 2).trans rfl; have hcz24_3 : w22.cell? ⟨gb142, 3, none⟩ = some (.int .i64 t132) := (blk_cell BK142.out 3).trans rfl; have hcz24_4 : w22.cell? ⟨gb142, 4, none⟩ = some (.int .i64 t133) := (blk_cell BK142.out 4).trans rfl; have hcz24_5 : w22.cell? ⟨gb142, 5, none⟩ = some (.int .i64 t134) := (blk_cell BK142.out 5).trans rfl; have hcz24_6 : w22.cell? ⟨gb142, 6, none⟩ = some (.int .i64 t135) := (blk_cell BK142.out 6).trans rfl; have hcz24_7 : w22.cell? ⟨gb142, 7, none⟩ = some (.int .i64 t136) := (blk_cell BK142.out 7).trans rfl; have hcz24_8 : w22.cell? ⟨gb142, 8, none⟩ = some (.int .i64 t137) := (blk_cell BK142.out 8).trans rfl; have hcz24_9 : w22.cell? ⟨gb142, 9, none⟩ = some (.int .i64 t138) := (blk_cell BK142.out 9).trans rfl; have hcz24_10 : w22.cell? ⟨gb142, 10, none⟩ = some (.int .i64 t139) := (blk_cell BK142.out 10).trans rfl; have hcz24_11 : w22.cell? ⟨gb142, 11, none⟩ = some (.int .i64 t140) := (blk_cell BK142.out 11).trans rfl; have hcz24_12 : w22.cell? ⟨gb142, 12, none⟩ = some (.int .i64 t141) := (blk_cell BK142.out 12).trans rfl; have hfz24_0 := blk_frozen BK142.out 0; have hfz24_1 := blk_frozen BK142.out 1; have hfz24_2 := blk_frozen BK142.out 2; have hfz24_3 := blk_frozen BK142.out 3; have hfz24_4 := blk_frozen BK142.out 4; have hfz24_5 := blk_frozen BK142.out 5; have hfz24_6 := blk_frozen BK142.out 6; have hfz24_7 := blk_frozen BK142.out 7; have hfz24_8 := blk_frozen BK142.out 8; have hfz24_9 := blk_frozen BK142.out 9; have hfz24_10 := blk_frozen BK142.out 10; have hfz24_11 := blk_frozen BK142.out 11; have hfz24_12 := blk_frozen BK142.out 12))
          go_loopg [26] kj1 (fun kq v26 w' => ∃ (x26_2 : Int), v26 = .int .i64 x26_2 ∧ Aside0 (knelllaw23_BackoffAll.l0 kq t143 t143 (t143.length : Int) x26_2 t129 t130 t131 t132 t133 t134 t135 t136 t137 t138 t139 t140 t141 = some r) ∧ Aside0 (kq ≤ kj1) ∧ Aside0 (Kd.R (Kd.int .i64) 3 w' w.heap.size (fun _ => True) (.slice Ao23 t143.length co23) t143) ∧ Aside0 (Kd.R (Kd.int .i64) 3 w' w.heap.size (fun _ => True) (.slice Ao23 t143.length co23) t143) ∧ Aside0 (w'.heap[gb125]? = some (.cells #[.int .i64 a0_0, .int .i64 a0_1, .int .i64 a0_2, .int .i64 a0_3, .int .i64 a0_4, .int .i64 a0_5, .int .i64 a0_6, .int .i64 a0_7, .int .i64 a0_8, .int .i64 a0_9, .int .i64 a0_10, .int .i64 a0_11, .int .i64 a0_12] 33 (0, 0))) ∧ Aside0 (w'.heap[gb142]? = some (.cells #[.int .i64 t129, .int .i64 t130, .int .i64 t131, .int .i64 t132, .int .i64 t133, .int .i64 t134, .int .i64 t135, .int .i64 t136, .int .i64 t137, .int .i64 t138, .int .i64 t139, .int .i64 t140, .int .i64 t141] 36 (0, 0))) ∧ Aside0 (Below w.heap.size w w'))
          case atStart => exact ⟨(0), (by first | rfl | (simp; done) | (simp [*]; done)), H', ⟨Nat.le_refl _⟩, ⟨by (with_reducible repeat (first | apply Kd.R_alloc | apply Kd.R_drewN | apply Kd.R_drew)); exact HO145.out⟩, ⟨by (with_reducible repeat (first | apply Kd.R_alloc | apply Kd.R_drewN | apply Kd.R_drew)); exact HO145.out⟩, ⟨by (with_reducible repeat (first | refine blk_drewN ?_ _ | refine blk_drew ?_ | refine blk_alloc ?_ _)); exact BK125.out⟩, ⟨by (with_reducible repeat (first | refine blk_drewN ?_ _ | refine blk_drew ?_ | refine blk_alloc ?_ _)); exact BK142.out⟩, ⟨by repeat (first | (with_reducible first | exact HB.out | apply below_alloc | apply pw_below_drewN | apply below_drew1 | refine below_set ?_ GE125.out | refine below_set ?_ GE142.out) | exact HB.out)⟩⟩
          case round =>
            clear H'
            try clear c1
            try clear c2
            try clear p2
            try clear c5
            try clear c11
            try clear c16
            try clear c16b0
            try clear c16b1
            try clear c20
            try clear c21
            try clear c23
            try clear c24
            try clear hcz17_0
            try clear hcz17_1
            try clear hcz17_10
            try clear hcz17_11
            try clear hcz17_12
            try clear hcz17_2
            try clear hcz17_3
            try clear hcz17_4
            try clear hcz17_5
            try clear hcz17_6
            try clear hcz17_7
            try clear hcz17_8
            try clear hcz17_9
            try clear hcz21_0
            try clear hcz21_1
            try clear hcz21_10
            try clear hcz21_11
            try clear hcz21_12
            try clear hcz21_2
            try clear hcz21_3
            try clear hcz21_4
            try clear hcz21_5
            try clear hcz21_6
            try clear hcz21_7
            try clear hcz21_8
            try clear hcz21_9
            try clear hcz24_0
            try clear hcz24_1
            try clear hcz24_10
            try clear hcz24_11
            try clear hcz24_12
            try clear hcz24_2
            try clear hcz24_3
            try clear hcz24_4
            try clear hcz24_5
            try clear hcz24_6
            try clear hcz24_7
            try clear hcz24_8
            try clear hcz24_9
            try clear hcz8_0
            try clear hcz8_1
            try clear hcz8_10
            try clear hcz8_11
            try clear hcz8_12
            try clear hcz8_2
            try clear hcz8_3
            try clear hcz8_4
            try clear hcz8_5
            try clear hcz8_6
            try clear hcz8_7
            try clear hcz8_8
            try clear hcz8_9
            try clear hfz17_0
            try clear hfz17_1
            try clear hfz17_10
            try clear hfz17_11
            try clear hfz17_12
            try clear hfz17_2
            try clear hfz17_3
            try clear hfz17_4
            try clear hfz17_5
            try clear hfz17_6
            try clear hfz17_7
            try clear hfz17_8
            try clear hfz17_9
            try clear hfz21_0
            try clear hfz21_1
            try clear hfz21_10
            try clear hfz21_11
            try clear hfz21_12
            try clear hfz21_2
            try clear hfz21_3
            try clear hfz21_4
            try clear hfz21_5
            try clear hfz21_6
            try clear hfz21_7
            try clear hfz21_8
            try clear hfz21_9
            try clear hfz24_0
            try clear hfz24_1
            try clear hfz24_10
            try clear hfz24_11
            try clear hfz24_12
            try clear hfz24_2
            try clear hfz24_3
            try clear hfz24_4
            try clear hfz24_5
            try clear hfz24_6
            try clear hfz24_7
            try clear hfz24_8
            try clear hfz24_9
            try clear hfz8_0
            try clear hfz8_1
            try clear hfz8_10
            try clear hfz8_11
            try clear hfz8_12
            try clear hfz8_2
            try clear hfz8_3
            try clear hfz8_4
            try clear hfz8_5
            try clear hfz8_6
            try clear hfz8_7
            try clear hfz8_8
            try clear hfz8_9
            try clear p2
            obtain ⟨x26_2, rfl, HA, HK2, HO_4, HO_24, BK125, BK142, HB⟩ := hrel
            cases gk with
            | zero => exact absurd HA.out (by simp [knelllaw23_BackoffAll.l0])
            | succ k2 =>
              have H := HA.out
              clear HA
              simp only [knelllaw23_BackoffAll.l0] at H
              by_cases c25 : x26_2 < (t143.length : Int)
              · rw [if_pos c25] at H
                have c25b0 : decide (x26_2 < (t143.length : Int)) = true := decide_eq_true c25
                clear c25
                by_cases c26 : 0 ≤ x26_2
                · rw [if_pos c26] at H
                  have c26b0 : decide (0 ≤ x26_2) = true := decide_eq_true c26
                  clear c26
                  by_cases c27 : x26_2 < (t143.length : Int)
                  · rw [if_pos c27] at H
                    have c27b0 : decide (x26_2 < (t143.length : Int)) = true := decide_eq_true c27
                    clear c27
                    replace H := Option.bind_eq_some_iff.mp H
                    obtain ⟨t147, A280, H⟩ := H
                    replace H : (if (rd t143 x26_2) = t147 then (if (rd t143 x26_2) > t139 then (some false) else (if (rd t143 x26_2) < 1 then (some false) else (if x26_2 > 0 then (if 0 ≤ (wrap64 (x26_2 - 1)) then (if (wrap64 (x26_2 - 1)) < (t143.length : Int) then (if (rd t143 x26_2) < (rd t143 (wrap64 (x26_2 - 1))) then (some false) else (knelllaw23_BackoffAll.l0 k2 t143 t143 (t143.length : Int) (wrap64 (x26_2 + 1)) t129 t130 t131 t132 t133 t134 t135 t136 t137 t138 t139 t140 t141)) else (none)) else (none)) else (knelllaw23_BackoffAll.l0 k2 t143 t143 (t143.length : Int) (wrap64 (x26_2 + 1)) t129 t130 t131 t132 t133 t134 t135 t136 t137 t138 t139 t140 t141)))) else (some false)) = some r := H
                    have A28 := Aside0.mk A280
                    clear A280
                    by_cases c29 : (rd t143 x26_2) = t147
                    · rw [if_pos c29] at H
                      have c29b0 : ((rd t143 x26_2) == t147) = true := beq_iff_eq.mpr c29
                      have c29b1 : ((rd t143 x26_2) != t147) = false := bne_eq_false_iff_eq.mpr c29
                      clear c29
                      by_cases c30 : (rd t143 x26_2) > t139
                      · rw [if_pos c30] at H
                        have c30b0 : decide (t139 < (rd t143 x26_2)) = true := decide_eq_true c30
                        clear c30
                        obtain rfl := Option.some.inj H
                        have p146 : 0 ≤ (x26_2 : Int) := of_decide_eq_true (by first | (with_reducible assumption) | assumption)
                        have q146 : x26_2 < (t143.length : Int) := of_decide_eq_true (by first | (with_reducible assumption) | assumption)
                        obtain ⟨ad146, e146, hx146_0⟩ := Kd.at_int (Kd.R_reads' HO_24.out).2.2 x26_2 p146 q146
                        cases e146
                        replace p146 := eq_true p146
                        replace q146 := eq_true q146
                        have hnb31 := NB142_125.out
                        have hnc31 := NB125_142.out
                        have hcz32_0 : wr.cell? ⟨gb142, 0, none⟩ = some (.int .i64 t129) := (blk_cell BK142.out 0).trans rfl
                        have hcz32_1 : wr.cell? ⟨gb142, 1, none⟩ = some (.int .i64 t130) := (blk_cell BK142.out 1).trans rfl
                        have hcz32_2 : wr.cell? ⟨gb142, 2, none⟩ = some (.int .i64 t131) := (blk_cell BK142.out 2).trans rfl
                        have hcz32_3 : wr.cell? ⟨gb142, 3, none⟩ = some (.int .i64 t132) := (blk_cell BK142.out 3).trans rfl
                        have hcz32_4 : wr.cell? ⟨gb142, 4, none⟩ = some (.int .i64 t133) := (blk_cell BK142.out 4).trans rfl
                        have hcz32_5 : wr.cell? ⟨gb142, 5, none⟩ = some (.int .i64 t134) := (blk_cell BK142.out 5).trans rfl
                        have hcz32_6 : wr.cell? ⟨gb142, 6, none⟩ = some (.int .i64 t135) := (blk_cell BK142.out 6).trans rfl
                        have hcz32_7 : wr.cell? ⟨gb142, 7, none⟩ = some (.int .i64 t136) := (blk_cell BK142.out 7).trans rfl
                        have hcz32_8 : wr.cell? ⟨gb142, 8, none⟩ = some (.int .i64 t137) := (blk_cell BK142.out 8).trans rfl
                        have hcz32_9 : wr.cell? ⟨gb142, 9, none⟩ = some (.int .i64 t138) := (blk_cell BK142.out 9).trans rfl
                        have hcz32_10 : wr.cell? ⟨gb142, 10, none⟩ = some (.int .i64 t139) := (blk_cell BK142.out 10).trans rfl
                        have hcz32_11 : wr.cell? ⟨gb142, 11, none⟩ = some (.int .i64 t140) := (blk_cell BK142.out 11).trans rfl
                        have hcz32_12 : wr.cell? ⟨gb142, 12, none⟩ = some (.int .i64 t141) := (blk_cell BK142.out 12).trans rfl
                        have hfz32_0 := blk_frozen BK142.out 0
                        have hfz32_1 := blk_frozen BK142.out 1
                        have hfz32_2 := blk_frozen BK142.out 2
                        have hfz32_3 := blk_frozen BK142.out 3
                        have hfz32_4 := blk_frozen BK142.out 4
                        have hfz32_5 := blk_frozen BK142.out 5
                        have hfz32_6 := blk_frozen BK142.out 6
                        have hfz32_7 := blk_frozen BK142.out 7
                        have hfz32_8 := blk_frozen BK142.out 8
                        have hfz32_9 := blk_frozen BK142.out 9
                        have hfz32_10 := blk_frozen BK142.out 10
                        have hfz32_11 := blk_frozen BK142.out 11
                        have hfz32_12 := blk_frozen BK142.out 12
                        go_wp2_with (first | ((with_reducible refine gate_callee (f := 25) rfl ?_); refine goesL_ (some 37) rfl rfl Try.func25 (by kernel_rfl) rfl #[.int .i64 t138, .int .i64 t139, .int .i64 x26_2] rfl (by (try simp only [List.map_toArray, List.map_cons, List.map_nil]); first | done | rfl | (simp only [List.length_drop, List.length_take]; rfl)) ?_; (with_reducible refine (backoff_Wait.calls k2 t138 t139 x26_2 t147 _ A28.out).mono ?_); rintro e w33 ⟨rfl, hb⟩; refine ⟨_, rfl, ?_⟩; have n0_ := Aside0.mk (Kd.R_below (by (with_reducible repeat (first | apply Kd.R_alloc | apply Kd.R_drewN | apply Kd.R_drew)); exact HO_4.out) hb); have n1_ := Aside0.mk (Kd.R_below (by (with_reducible repeat (first | apply Kd.R_alloc | apply Kd.R_drewN | apply Kd.R_drew)); exact HO_24.out) hb); have n2_ := Aside0.mk (blk_below (g := gb125) (o := .cells #[.int .i64 a0_0, .int .i64 a0_1, .int .i64 a0_2, .int .i64 a0_3, .int .i64 a0_4, .int .i64 a0_5, .int .i64 a0_6, .int .i64 a0_7, .int .i64 a0_8, .int .i64 a0_9, .int .i64 a0_10, .int .i64 a0_11, .int .i64 a0_12] 33 (0, 0)) (by (with_reducible repeat (first | refine blk_drewN ?_ _ | refine blk_drew ?_ | refine blk_alloc ?_ _)); exact BK125.out) hb); have n3_ := Aside0.mk (blk_below (g := gb142) (o := .cells #[.int .i64 t129, .int .i64 t130, .int .i64 t131, .int .i64 t132, .int .i64 t133, .int .i64 t134, .int .i64 t135, .int .i64 t136, .int .i64 t137, .int .i64 t138, .int .i64 t139, .int .i64 t140, .int .i64 t141] 36 (0, 0)) (by (with_reducible repeat (first | refine blk_drewN ?_ _ | refine blk_drew ?_ | refine blk_alloc ?_ _)); exact BK142.out) hb); have n4_ := Aside0.mk (below_step (by repeat (first | (with_reducible first | exact HB.out | apply below_alloc | apply pw_below_drewN | apply below_drew1 | refine below_set ?_ GE125.out | refine below_set ?_ GE142.out) | exact HB.out)) hb); clear HO_4; clear HO_24; clear BK125; clear BK142; clear HB; have HO_4 := n0_; have HO_24 := n1_; have BK125 := n2_; have BK142 := n3_; have HB := n4_; clear n0_ n1_ n2_ n3_ n4_; (try clear hb); (try clear hb2); (try clear hk); (try clear hi); have hcz34_0 : w33.cell? ⟨gb142, 0, none⟩ = some (.int .i64 t129) := (blk_cell BK142.out 0).trans rfl; have hcz34_1 : w33.cell? ⟨gb142, 1, none⟩ = some (.int .i64 t130) := (blk_cell BK142.out 1).trans rfl; have hcz34_2 : w33.cell? ⟨gb142, 2, none⟩ = some (.int .i64 t131) := (blk_cell BK142.out 2).trans rfl; have hcz34_3 : w33.cell? ⟨gb142, 3, none⟩ = some (.int .i64 t132) := (blk_cell BK142.out 3).trans rfl; have hcz34_4 : w33.cell? ⟨gb142, 4, none⟩ = some (.int .i64 t133) := (blk_cell BK142.out 4).trans rfl; have hcz34_5 : w33.cell? ⟨gb142, 5, none⟩ = some (.int .i64 t134) := (blk_cell BK142.out 5).trans rfl; have hcz34_6 : w33.cell? ⟨gb142, 6, none⟩ = some (.int .i64 t135) := (blk_cell BK142.out 6).trans rfl; have hcz34_7 : w33.cell? ⟨gb142, 7, none⟩ = some (.int .i64 t136) := (blk_cell BK142.out 7).trans rfl; have hcz34_8 : w33.cell? ⟨gb142, 8, none⟩ = some (.int .i64 t137) := (blk_cell BK142.out 8).trans rfl; have hcz34_9 : w33.cell? ⟨gb142, 9, none⟩ = some (.int .i64 t138) := (blk_cell BK142.out 9).trans rfl; have hcz34_10 : w33.cell? ⟨gb142, 10, none⟩ = some (.int .i64 t139) := (blk_cell BK142.out 10).trans rfl; have hcz34_11 : w33.cell? ⟨gb142, 11, none⟩ = some (.int .i64 t140) := (blk_cell BK142.out 11).trans rfl; have hcz34_12 : w33.cell? ⟨gb142, 12, none⟩ = some (.int .i64 t141) := (blk_cell BK142.out 12).trans rfl; have hfz34_0 := blk_frozen BK142.out 0; have hfz34_1 := blk_frozen BK142.out 1; have hfz34_2 := blk_frozen BK142.out 2; have hfz34_3 := blk_frozen BK142.out 3; have hfz34_4 := blk_frozen BK142.out 4; have hfz34_5 := blk_frozen BK142.out 5; have hfz34_6 := blk_frozen BK142.out 6; have hfz34_7 := blk_frozen BK142.out 7; have hfz34_8 := blk_frozen BK142.out 8; have hfz34_9 := blk_frozen BK142.out 9; have hfz34_10 := blk_frozen BK142.out 10; have hfz34_11 := blk_frozen BK142.out 11; have hfz34_12 := blk_frozen BK142.out 12))
                        go_ret
                        exact ⟨by first | rfl | (simp [errW_none, errW_some] <;> rfl) | (simp [*, errW_none, errW_some] <;> rfl), by repeat (first | (with_reducible first | exact HB.out | apply below_alloc | apply pw_below_drewN | apply below_drew1 | refine below_set ?_ GE125.out | refine below_set ?_ GE142.out) | exact HB.out)⟩
                      · rw [if_neg c30] at H
                        have c30b0 : decide (t139 < (rd t143 x26_2)) = false := decide_eq_false c30
                        clear c30
                        by_cases c35 : (rd t143 x26_2) < 1
                        · rw [if_pos c35] at H
                          have c35b0 : decide ((rd t143 x26_2) < 1) = true := decide_eq_true c35
                          clear c35
                          obtain rfl := Option.some.inj H
                          have p146 : 0 ≤ (x26_2 : Int) := of_decide_eq_true (by first | (with_reducible assumption) | assumption)
                          have q146 : x26_2 < (t143.length : Int) := of_decide_eq_true (by first | (with_reducible assumption) | assumption)
                          obtain ⟨ad146, e146, hx146_0⟩ := Kd.at_int (Kd.R_reads' HO_24.out).2.2 x26_2 p146 q146
                          cases e146
                          replace p146 := eq_true p146
                          replace q146 := eq_true q146
                          have hnb36 := NB142_125.out
                          have hnc36 := NB125_142.out
                          have hcz37_0 : wr.cell? ⟨gb142, 0, none⟩ = some (.int .i64 t129) := (blk_cell BK142.out 0).trans rfl
                          have hcz37_1 : wr.cell? ⟨gb142, 1, none⟩ = some (.int .i64 t130) := (blk_cell BK142.out 1).trans rfl
                          have hcz37_2 : wr.cell? ⟨gb142, 2, none⟩ = some (.int .i64 t131) := (blk_cell BK142.out 2).trans rfl
                          have hcz37_3 : wr.cell? ⟨gb142, 3, none⟩ = some (.int .i64 t132) := (blk_cell BK142.out 3).trans rfl
                          have hcz37_4 : wr.cell? ⟨gb142, 4, none⟩ = some (.int .i64 t133) := (blk_cell BK142.out 4).trans rfl
                          have hcz37_5 : wr.cell? ⟨gb142, 5, none⟩ = some (.int .i64 t134) := (blk_cell BK142.out 5).trans rfl
                          have hcz37_6 : wr.cell? ⟨gb142, 6, none⟩ = some (.int .i64 t135) := (blk_cell BK142.out 6).trans rfl
                          have hcz37_7 : wr.cell? ⟨gb142, 7, none⟩ = some (.int .i64 t136) := (blk_cell BK142.out 7).trans rfl
                          have hcz37_8 : wr.cell? ⟨gb142, 8, none⟩ = some (.int .i64 t137) := (blk_cell BK142.out 8).trans rfl
                          have hcz37_9 : wr.cell? ⟨gb142, 9, none⟩ = some (.int .i64 t138) := (blk_cell BK142.out 9).trans rfl
                          have hcz37_10 : wr.cell? ⟨gb142, 10, none⟩ = some (.int .i64 t139) := (blk_cell BK142.out 10).trans rfl
                          have hcz37_11 : wr.cell? ⟨gb142, 11, none⟩ = some (.int .i64 t140) := (blk_cell BK142.out 11).trans rfl
                          have hcz37_12 : wr.cell? ⟨gb142, 12, none⟩ = some (.int .i64 t141) := (blk_cell BK142.out 12).trans rfl
                          have hfz37_0 := blk_frozen BK142.out 0
                          have hfz37_1 := blk_frozen BK142.out 1
                          have hfz37_2 := blk_frozen BK142.out 2
                          have hfz37_3 := blk_frozen BK142.out 3
                          have hfz37_4 := blk_frozen BK142.out 4
                          have hfz37_5 := blk_frozen BK142.out 5
                          have hfz37_6 := blk_frozen BK142.out 6
                          have hfz37_7 := blk_frozen BK142.out 7
                          have hfz37_8 := blk_frozen BK142.out 8
                          have hfz37_9 := blk_frozen BK142.out 9
                          have hfz37_10 := blk_frozen BK142.out 10
                          have hfz37_11 := blk_frozen BK142.out 11
                          have hfz37_12 := blk_frozen BK142.out 12
                          go_wp2_with (first | ((with_reducible refine gate_callee (f := 25) rfl ?_); refine goesL_ (some 37) rfl rfl Try.func25 (by kernel_rfl) rfl #[.int .i64 t138, .int .i64 t139, .int .i64 x26_2] rfl (by (try simp only [List.map_toArray, List.map_cons, List.map_nil]); first | done | rfl | (simp only [List.length_drop, List.length_take]; rfl)) ?_; (with_reducible refine (backoff_Wait.calls k2 t138 t139 x26_2 t147 _ A28.out).mono ?_); rintro e w38 ⟨rfl, hb⟩; refine ⟨_, rfl, ?_⟩; have n0_ := Aside0.mk (Kd.R_below (by (with_reducible repeat (first | apply Kd.R_alloc | apply Kd.R_drewN | apply Kd.R_drew)); exact HO_4.out) hb); have n1_ := Aside0.mk (Kd.R_below (by (with_reducible repeat (first | apply Kd.R_alloc | apply Kd.R_drewN | apply Kd.R_drew)); exact HO_24.out) hb); have n2_ := Aside0.mk (blk_below (g := gb125) (o := .cells #[.int .i64 a0_0, .int .i64 a0_1, .int .i64 a0_2, .int .i64 a0_3, .int .i64 a0_4, .int .i64 a0_5, .int .i64 a0_6, .int .i64 a0_7, .int .i64 a0_8, .int .i64 a0_9, .int .i64 a0_10, .int .i64 a0_11, .int .i64 a0_12] 33 (0, 0)) (by (with_reducible repeat (first | refine blk_drewN ?_ _ | refine blk_drew ?_ | refine blk_alloc ?_ _)); exact BK125.out) hb); have n3_ := Aside0.mk (blk_below (g := gb142) (o := .cells #[.int .i64 t129, .int .i64 t130, .int .i64 t131, .int .i64 t132, .int .i64 t133, .int .i64 t134, .int .i64 t135, .int .i64 t136, .int .i64 t137, .int .i64 t138, .int .i64 t139, .int .i64 t140, .int .i64 t141] 36 (0, 0)) (by (with_reducible repeat (first | refine blk_drewN ?_ _ | refine blk_drew ?_ | refine blk_alloc ?_ _)); exact BK142.out) hb); have n4_ := Aside0.mk (below_step (by repeat (first | (with_reducible first | exact HB.out | apply below_alloc | apply pw_below_drewN | apply below_drew1 | refine below_set ?_ GE125.out | refine below_set ?_ GE142.out) | exact HB.out)) hb); clear HO_4; clear HO_24; clear BK125; clear BK142; clear HB; have HO_4 := n0_; have HO_24 := n1_; have BK125 := n2_; have BK142 := n3_; have HB := n4_; clear n0_ n1_ n2_ n3_ n4_; (try clear hb); (try clear hb2); (try clear hk); (try clear hi); have hcz39_0 : w38.cell? ⟨gb142, 0, none⟩ = some (.int .i64 t129) := (blk_cell BK142.out 0).trans rfl; have hcz39_1 : w38.cell? ⟨gb142, 1, none⟩ = some (.int .i64 t130) := (blk_cell BK142.out 1).trans rfl; have hcz39_2 : w38.cell? ⟨gb142, 2, none⟩ = some (.int .i64 t131) := (blk_cell BK142.out 2).trans rfl; have hcz39_3 : w38.cell? ⟨gb142, 3, none⟩ = some (.int .i64 t132) := (blk_cell BK142.out 3).trans rfl; have hcz39_4 : w38.cell? ⟨gb142, 4, none⟩ = some (.int .i64 t133) := (blk_cell BK142.out 4).trans rfl; have hcz39_5 : w38.cell? ⟨gb142, 5, none⟩ = some (.int .i64 t134) := (blk_cell BK142.out 5).trans rfl; have hcz39_6 : w38.cell? ⟨gb142, 6, none⟩ = some (.int .i64 t135) := (blk_cell BK142.out 6).trans rfl; have hcz39_7 : w38.cell? ⟨gb142, 7, none⟩ = some (.int .i64 t136) := (blk_cell BK142.out 7).trans rfl; have hcz39_8 : w38.cell? ⟨gb142, 8, none⟩ = some (.int .i64 t137) := (blk_cell BK142.out 8).trans rfl; have hcz39_9 : w38.cell? ⟨gb142, 9, none⟩ = some (.int .i64 t138) := (blk_cell BK142.out 9).trans rfl; have hcz39_10 : w38.cell? ⟨gb142, 10, none⟩ = some (.int .i64 t139) := (blk_cell BK142.out 10).trans rfl; have hcz39_11 : w38.cell? ⟨gb142, 11, none⟩ = some (.int .i64 t140) := (blk_cell BK142.out 11).trans rfl; have hcz39_12 : w38.cell? ⟨gb142, 12, none⟩ = some (.int .i64 t141) := (blk_cell BK142.out 12).trans rfl; have hfz39_0 := blk_frozen BK142.out 0; have hfz39_1 := blk_frozen BK142.out 1; have hfz39_2 := blk_frozen BK142.out 2; have hfz39_3 := blk_frozen BK142.out 3; have hfz39_4 := blk_frozen BK142.out 4; have hfz39_5 := blk_frozen BK142.out 5; have hfz39_6 := blk_frozen BK142.out 6; have hfz39_7 := blk_frozen BK142.out 7; have hfz39_8 := blk_frozen BK142.out 8; have hfz39_9 := blk_frozen BK142.out 9; have hfz39_10 := blk_frozen BK142.out 10; have hfz39_11 := blk_frozen BK142.out 11; have hfz39_12 := blk_frozen BK142.out 12))
                          go_ret
                          exact ⟨by first | rfl | (simp [errW_none, errW_some] <;> rfl) | (simp [*, errW_none, errW_some] <;> rfl), by repeat (first | (with_reducible first | exact HB.out | apply below_alloc | apply pw_below_drewN | apply below_drew1 | refine below_set ?_ GE125.out | refine below_set ?_ GE142.out) | exact HB.out)⟩
                        · rw [if_neg c35] at H
                          have c35b0 : decide ((rd t143 x26_2) < 1) = false := decide_eq_false c35
                          clear c35
                          by_cases c40 : x26_2 > 0
                          · rw [if_pos c40] at H
                            have c40b0 : decide (0 < x26_2) = true := decide_eq_true c40
                            clear c40
                            obtain ⟨ji41, hji41⟩ : ∃ j_ : Int, (wrap64 (x26_2 - 1)) = j_ := ⟨_, rfl⟩
                            replace H : (if 0 ≤ (ji41) then (if (ji41) < (t143.length : Int) then (if (rd t143 x26_2) < (rd t143 (ji41)) then (some false) else (knelllaw23_BackoffAll.l0 k2 t143 t143 (t143.length : Int) (wrap64 (x26_2 + 1)) t129 t130 t131 t132 t133 t134 t135 t136 t137 t138 t139 t140 t141)) else (none)) else (none)) = some r := by first | (rw [hji41] at H; exact H) | (simp only [hji41] at H ⊢; exact H)
                            (try rw [hji41] at A28)
                            have hji41w : (IntKind.i64.wrap (x26_2 - 1)) = ji41 := (i64_w _).trans hji41
                            by_cases c42 : 0 ≤ (ji41)
                            · rw [if_pos c42] at H
                              have c42b0 : decide (0 ≤ (ji41)) = true := decide_eq_true c42
                              clear c42
                              by_cases c43 : (ji41) < (t143.length : Int)
                              · rw [if_pos c43] at H
                                have c43b0 : decide ((ji41) < (t143.length : Int)) = true := decide_eq_true c43
                                clear c43
                                by_cases c44 : (rd t143 x26_2) < (rd t143 (ji41))
                                · rw [if_pos c44] at H
                                  have c44b0 : decide ((rd t143 x26_2) < (rd t143 (ji41))) = true := decide_eq_true c44
                                  clear c44
                                  obtain rfl := Option.some.inj H
                                  have p146 : 0 ≤ (x26_2 : Int) := of_decide_eq_true (by first | (with_reducible assumption) | assumption)
                                  have q146 : x26_2 < (t143.length : Int) := of_decide_eq_true (by first | (with_reducible assumption) | assumption)
                                  obtain ⟨ad146, e146, hx146_0⟩ := Kd.at_int (Kd.R_reads' HO_24.out).2.2 x26_2 p146 q146
                                  cases e146
                                  replace p146 := eq_true p146
                                  replace q146 := eq_true q146
                                  have hnb45 := NB142_125.out
                                  have hnc45 := NB125_142.out
                                  have hcz46_0 : wr.cell? ⟨gb142, 0, none⟩ = some (.int .i64 t129) := (blk_cell BK142.out 0).trans rfl
                                  have hcz46_1 : wr.cell? ⟨gb142, 1, none⟩ = some (.int .i64 t130) := (blk_cell BK142.out 1).trans rfl
                                  have hcz46_2 : wr.cell? ⟨gb142, 2, none⟩ = some (.int .i64 t131) := (blk_cell BK142.out 2).trans rfl
                                  have hcz46_3 : wr.cell? ⟨gb142, 3, none⟩ = some (.int .i64 t132) := (blk_cell BK142.out 3).trans rfl
                                  have hcz46_4 : wr.cell? ⟨gb142, 4, none⟩ = some (.int .i64 t133) := (blk_cell BK142.out 4).trans rfl
                                  have hcz46_5 : wr.cell? ⟨gb142, 5, none⟩ = some (.int .i64 t134) := (blk_cell BK142.out 5).trans rfl
                                  have hcz46_6 : wr.cell? ⟨gb142, 6, none⟩ = some (.int .i64 t135) := (blk_cell BK142.out 6).trans rfl
                                  have hcz46_7 : wr.cell? ⟨gb142, 7, none⟩ = some (.int .i64 t136) := (blk_cell BK142.out 7).trans rfl
                                  have hcz46_8 : wr.cell? ⟨gb142, 8, none⟩ = some (.int .i64 t137) := (blk_cell BK142.out 8).trans rfl
                                  have hcz46_9 : wr.cell? ⟨gb142, 9, none⟩ = some (.int .i64 t138) := (blk_cell BK142.out 9).trans rfl
                                  have hcz46_10 : wr.cell? ⟨gb142, 10, none⟩ = some (.int .i64 t139) := (blk_cell BK142.out 10).trans rfl
                                  have hcz46_11 : wr.cell? ⟨gb142, 11, none⟩ = some (.int .i64 t140) := (blk_cell BK142.out 11).trans rfl
                                  have hcz46_12 : wr.cell? ⟨gb142, 12, none⟩ = some (.int .i64 t141) := (blk_cell BK142.out 12).trans rfl
                                  have hfz46_0 := blk_frozen BK142.out 0
                                  have hfz46_1 := blk_frozen BK142.out 1
                                  have hfz46_2 := blk_frozen BK142.out 2
                                  have hfz46_3 := blk_frozen BK142.out 3
                                  have hfz46_4 := blk_frozen BK142.out 4
                                  have hfz46_5 := blk_frozen BK142.out 5
                                  have hfz46_6 := blk_frozen BK142.out 6
                                  have hfz46_7 := blk_frozen BK142.out 7
                                  have hfz46_8 := blk_frozen BK142.out 8
                                  have hfz46_9 := blk_frozen BK142.out 9
                                  have hfz46_10 := blk_frozen BK142.out 10
                                  have hfz46_11 := blk_frozen BK142.out 11
                                  have hfz46_12 := blk_frozen BK142.out 12
                                  go_wp2_with (first | ((with_reducible refine gate_callee (f := 25) rfl ?_); refine goesL_ (some 37) rfl rfl Try.func25 (by kernel_rfl) rfl #[.int .i64 t138, .int .i64 t139, .int .i64 x26_2] rfl (by (try simp only [List.map_toArray, List.map_cons, List.map_nil]); first | done | rfl | (simp only [List.length_drop, List.length_take]; rfl)) ?_; (with_reducible refine (backoff_Wait.calls k2 t138 t139 x26_2 t147 _ A28.out).mono ?_); rintro e w47 ⟨rfl, hb⟩; refine ⟨_, rfl, ?_⟩; have n0_ := Aside0.mk (Kd.R_below (by (with_reducible repeat (first | apply Kd.R_alloc | apply Kd.R_drewN | apply Kd.R_drew)); exact HO_4.out) hb); have n1_ := Aside0.mk (Kd.R_below (by (with_reducible repeat (first | apply Kd.R_alloc | apply Kd.R_drewN | apply Kd.R_drew)); exact HO_24.out) hb); have n2_ := Aside0.mk (blk_below (g := gb125) (o := .cells #[.int .i64 a0_0, .int .i64 a0_1, .int .i64 a0_2, .int .i64 a0_3, .int .i64 a0_4, .int .i64 a0_5, .int .i64 a0_6, .int .i64 a0_7, .int .i64 a0_8, .int .i64 a0_9, .int .i64 a0_10, .int .i64 a0_11, .int .i64 a0_12] 33 (0, 0)) (by (with_reducible repeat (first | refine blk_drewN ?_ _ | refine blk_drew ?_ | refine blk_alloc ?_ _)); exact BK125.out) hb); have n3_ := Aside0.mk (blk_below (g := gb142) (o := .cells #[.int .i64 t129, .int .i64 t130, .int .i64 t131, .int .i64 t132, .int .i64 t133, .int .i64 t134, .int .i64 t135, .int .i64 t136, .int .i64 t137, .int .i64 t138, .int .i64 t139, .int .i64 t140, .int .i64 t141] 36 (0, 0)) (by (with_reducible repeat (first | refine blk_drewN ?_ _ | refine blk_drew ?_ | refine blk_alloc ?_ _)); exact BK142.out) hb); have n4_ := Aside0.mk (below_step (by repeat (first | (with_reducible first | exact HB.out | apply below_alloc | apply pw_below_drewN | apply below_drew1 | refine below_set ?_ GE125.out | refine below_set ?_ GE142.out) | exact HB.out)) hb); clear HO_4; clear HO_24; clear BK125; clear BK142; clear HB; have HO_4 := n0_; have HO_24 := n1_; have BK125 := n2_; have BK142 := n3_; have HB := n4_; clear n0_ n1_ n2_ n3_ n4_; (try clear hb); (try clear hb2); (try clear hk); (try clear hi); have hcz48_0 : w47.cell? ⟨gb142, 0, none⟩ = some (.int .i64 t129) := (blk_cell BK142.out 0).trans rfl; have hcz48_1 : w47.cell? ⟨gb142, 1, none⟩ = some (.int .i64 t130) := (blk_cell BK142.out 1).trans rfl; have hcz48_2 : w47.cell? ⟨gb142, 2, none⟩ = some (.int .i64 t131) := (blk_cell BK142.out 2).trans rfl; have hcz48_3 : w47.cell? ⟨gb142, 3, none⟩ = some (.int .i64 t132) := (blk_cell BK142.out 3).trans rfl; have hcz48_4 : w47.cell? ⟨gb142, 4, none⟩ = some (.int .i64 t133) := (blk_cell BK142.out 4).trans rfl; have hcz48_5 : w47.cell? ⟨gb142, 5, none⟩ = some (.int .i64 t134) := (blk_cell BK142.out 5).trans rfl; have hcz48_6 : w47.cell? ⟨gb142, 6, none⟩ = some (.int .i64 t135) := (blk_cell BK142.out 6).trans rfl; have hcz48_7 : w47.cell? ⟨gb142, 7, none⟩ = some (.int .i64 t136) := (blk_cell BK142.out 7).trans rfl; have hcz48_8 : w47.cell? ⟨gb142, 8, none⟩ = some (.int .i64 t137) := (blk_cell BK142.out 8).trans rfl; have hcz48_9 : w47.cell? ⟨gb142, 9, none⟩ = some (.int .i64 t138) := (blk_cell BK142.out 9).trans rfl; have hcz48_10 : w47.cell? ⟨gb142, 10, none⟩ = some (.int .i64 t139) := (blk_cell BK142.out 10).trans rfl; have hcz48_11 : w47.cell? ⟨gb142, 11, none⟩ = some (.int .i64 t140) := (blk_cell BK142.out 11).trans rfl; have hcz48_12 : w47.cell? ⟨gb142, 12, none⟩ = some (.int .i64 t141) := (blk_cell BK142.out 12).trans rfl; have hfz48_0 := blk_frozen BK142.out 0; have hfz48_1 := blk_frozen BK142.out 1; have hfz48_2 := blk_frozen BK142.out 2; have hfz48_3 := blk_frozen BK142.out 3; have hfz48_4 := blk_frozen BK142.out 4; have hfz48_5 := blk_frozen BK142.out 5; have hfz48_6 := blk_frozen BK142.out 6; have hfz48_7 := blk_frozen BK142.out 7; have hfz48_8 := blk_frozen BK142.out 8; have hfz48_9 := blk_frozen BK142.out 9; have hfz48_10 := blk_frozen BK142.out 10; have hfz48_11 := blk_frozen BK142.out 11; have hfz48_12 := blk_frozen BK142.out 12; have p148 : 0 ≤ ((ji41) : Int) := of_decide_eq_true (by first | (with_reducible assumption) | assumption); have q148 : (ji41) < (t143.length : Int) := of_decide_eq_true (by first | (with_reducible assumption) | assumption); obtain ⟨ad148, e148, hx148_0⟩ := Kd.at_int (Kd.R_reads' HO_4.out).2.2 (ji41) p148 q148; obtain rfl : ad146 = ad148 := (by injection e148); replace p148 := eq_true p148; replace q148 := eq_true q148))
                                  go_ret
                                  exact ⟨by first | rfl | (simp [errW_none, errW_some] <;> rfl) | (simp only [← hji41]; first | rfl | (simp [errW_none, errW_some] <;> rfl)) | (simp [*, errW_none, errW_some] <;> rfl), by repeat (first | (with_reducible first | exact HB.out | apply below_alloc | apply pw_below_drewN | apply below_drew1 | refine below_set ?_ GE125.out | refine below_set ?_ GE142.out) | exact HB.out)⟩
                                · rw [if_neg c44] at H
                                  have c44b0 : decide ((rd t143 x26_2) < (rd t143 (ji41))) = false := decide_eq_false c44
                                  clear c44
                                  have H' := Aside0.mk H
                                  clear H
                                  have p146 : 0 ≤ (x26_2 : Int) := of_decide_eq_true (by first | (with_reducible assumption) | assumption)
                                  have q146 : x26_2 < (t143.length : Int) := of_decide_eq_true (by first | (with_reducible assumption) | assumption)
                                  obtain ⟨ad146, e146, hx146_0⟩ := Kd.at_int (Kd.R_reads' HO_24.out).2.2 x26_2 p146 q146
                                  cases e146
                                  replace p146 := eq_true p146
                                  replace q146 := eq_true q146
                                  have hnb49 := NB142_125.out
                                  have hnc49 := NB125_142.out
                                  have hcz50_0 : wr.cell? ⟨gb142, 0, none⟩ = some (.int .i64 t129) := (blk_cell BK142.out 0).trans rfl
                                  have hcz50_1 : wr.cell? ⟨gb142, 1, none⟩ = some (.int .i64 t130) := (blk_cell BK142.out 1).trans rfl
                                  have hcz50_2 : wr.cell? ⟨gb142, 2, none⟩ = some (.int .i64 t131) := (blk_cell BK142.out 2).trans rfl
                                  have hcz50_3 : wr.cell? ⟨gb142, 3, none⟩ = some (.int .i64 t132) := (blk_cell BK142.out 3).trans rfl
                                  have hcz50_4 : wr.cell? ⟨gb142, 4, none⟩ = some (.int .i64 t133) := (blk_cell BK142.out 4).trans rfl
                                  have hcz50_5 : wr.cell? ⟨gb142, 5, none⟩ = some (.int .i64 t134) := (blk_cell BK142.out 5).trans rfl
                                  have hcz50_6 : wr.cell? ⟨gb142, 6, none⟩ = some (.int .i64 t135) := (blk_cell BK142.out 6).trans rfl
                                  have hcz50_7 : wr.cell? ⟨gb142, 7, none⟩ = some (.int .i64 t136) := (blk_cell BK142.out 7).trans rfl
                                  have hcz50_8 : wr.cell? ⟨gb142, 8, none⟩ = some (.int .i64 t137) := (blk_cell BK142.out 8).trans rfl
                                  have hcz50_9 : wr.cell? ⟨gb142, 9, none⟩ = some (.int .i64 t138) := (blk_cell BK142.out 9).trans rfl
                                  have hcz50_10 : wr.cell? ⟨gb142, 10, none⟩ = some (.int .i64 t139) := (blk_cell BK142.out 10).trans rfl
                                  have hcz50_11 : wr.cell? ⟨gb142, 11, none⟩ = some (.int .i64 t140) := (blk_cell BK142.out 11).trans rfl
                                  have hcz50_12 : wr.cell? ⟨gb142, 12, none⟩ = some (.int .i64 t141) := (blk_cell BK142.out 12).trans rfl
                                  have hfz50_0 := blk_frozen BK142.out 0
                                  have hfz50_1 := blk_frozen BK142.out 1
                                  have hfz50_2 := blk_frozen BK142.out 2
                                  have hfz50_3 := blk_frozen BK142.out 3
                                  have hfz50_4 := blk_frozen BK142.out 4
                                  have hfz50_5 := blk_frozen BK142.out 5
                                  have hfz50_6 := blk_frozen BK142.out 6
                                  have hfz50_7 := blk_frozen BK142.out 7
                                  have hfz50_8 := blk_frozen BK142.out 8
                                  have hfz50_9 := blk_frozen BK142.out 9
                                  have hfz50_10 := blk_frozen BK142.out 10
                                  have hfz50_11 := blk_frozen BK142.out 11
                                  have hfz50_12 := blk_frozen BK142.out 12
                                  go_wp2_with (first | ((with_reducible refine gate_callee (f := 25) rfl ?_); refine goesL_ (some 37) rfl rfl Try.func25 (by kernel_rfl) rfl #[.int .i64 t138, .int .i64 t139, .int .i64 x26_2] rfl (by (try simp only [List.map_toArray, List.map_cons, List.map_nil]); first | done | rfl | (simp only [List.length_drop, List.length_take]; rfl)) ?_; (with_reducible refine (backoff_Wait.calls k2 t138 t139 x26_2 t147 _ A28.out).mono ?_); rintro e w51 ⟨rfl, hb⟩; refine ⟨_, rfl, ?_⟩; have n0_ := Aside0.mk (Kd.R_below (by (with_reducible repeat (first | apply Kd.R_alloc | apply Kd.R_drewN | apply Kd.R_drew)); exact HO_4.out) hb); have n1_ := Aside0.mk (Kd.R_below (by (with_reducible repeat (first | apply Kd.R_alloc | apply Kd.R_drewN | apply Kd.R_drew)); exact HO_24.out) hb); have n2_ := Aside0.mk (blk_below (g := gb125) (o := .cells #[.int .i64 a0_0, .int .i64 a0_1, .int .i64 a0_2, .int .i64 a0_3, .int .i64 a0_4, .int .i64 a0_5, .int .i64 a0_6, .int .i64 a0_7, .int .i64 a0_8, .int .i64 a0_9, .int .i64 a0_10, .int .i64 a0_11, .int .i64 a0_12] 33 (0, 0)) (by (with_reducible repeat (first | refine blk_drewN ?_ _ | refine blk_drew ?_ | refine blk_alloc ?_ _)); exact BK125.out) hb); have n3_ := Aside0.mk (blk_below (g := gb142) (o := .cells #[.int .i64 t129, .int .i64 t130, .int .i64 t131, .int .i64 t132, .int .i64 t133, .int .i64 t134, .int .i64 t135, .int .i64 t136, .int .i64 t137, .int .i64 t138, .int .i64 t139, .int .i64 t140, .int .i64 t141] 36 (0, 0)) (by (with_reducible repeat (first | refine blk_drewN ?_ _ | refine blk_drew ?_ | refine blk_alloc ?_ _)); exact BK142.out) hb); have n4_ := Aside0.mk (below_step (by repeat (first | (with_reducible first | exact HB.out | apply below_alloc | apply pw_below_drewN | apply below_drew1 | refine below_set ?_ GE125.out | refine below_set ?_ GE142.out) | exact HB.out)) hb); clear HO_4; clear HO_24; clear BK125; clear BK142; clear HB; have HO_4 := n0_; have HO_24 := n1_; have BK125 := n2_; have BK142 := n3_; have HB := n4_; clear n0_ n1_ n2_ n3_ n4_; (try clear hb); (try clear hb2); (try clear hk); (try clear hi); have hcz52_0 : w51.cell? ⟨gb142, 0, none⟩ = some (.int .i64 t129) := (blk_cell BK142.out 0).trans rfl; have hcz52_1 : w51.cell? ⟨gb142, 1, none⟩ = some (.int .i64 t130) := (blk_cell BK142.out 1).trans rfl; have hcz52_2 : w51.cell? ⟨gb142, 2, none⟩ = some (.int .i64 t131) := (blk_cell BK142.out 2).trans rfl; have hcz52_3 : w51.cell? ⟨gb142, 3, none⟩ = some (.int .i64 t132) := (blk_cell BK142.out 3).trans rfl; have hcz52_4 : w51.cell? ⟨gb142, 4, none⟩ = some (.int .i64 t133) := (blk_cell BK142.out 4).trans rfl; have hcz52_5 : w51.cell? ⟨gb142, 5, none⟩ = some (.int .i64 t134) := (blk_cell BK142.out 5).trans rfl; have hcz52_6 : w51.cell? ⟨gb142, 6, none⟩ = some (.int .i64 t135) := (blk_cell BK142.out 6).trans rfl; have hcz52_7 : w51.cell? ⟨gb142, 7, none⟩ = some (.int .i64 t136) := (blk_cell BK142.out 7).trans rfl; have hcz52_8 : w51.cell? ⟨gb142, 8, none⟩ = some (.int .i64 t137) := (blk_cell BK142.out 8).trans rfl; have hcz52_9 : w51.cell? ⟨gb142, 9, none⟩ = some (.int .i64 t138) := (blk_cell BK142.out 9).trans rfl; have hcz52_10 : w51.cell? ⟨gb142, 10, none⟩ = some (.int .i64 t139) := (blk_cell BK142.out 10).trans rfl; have hcz52_11 : w51.cell? ⟨gb142, 11, none⟩ = some (.int .i64 t140) := (blk_cell BK142.out 11).trans rfl; have hcz52_12 : w51.cell? ⟨gb142, 12, none⟩ = some (.int .i64 t141) := (blk_cell BK142.out 12).trans rfl; have hfz52_0 := blk_frozen BK142.out 0; have hfz52_1 := blk_frozen BK142.out 1; have hfz52_2 := blk_frozen BK142.out 2; have hfz52_3 := blk_frozen BK142.out 3; have hfz52_4 := blk_frozen BK142.out 4; have hfz52_5 := blk_frozen BK142.out 5; have hfz52_6 := blk_frozen BK142.out 6; have hfz52_7 := blk_frozen BK142.out 7; have hfz52_8 := blk_frozen BK142.out 8; have hfz52_9 := blk_frozen BK142.out 9; have hfz52_10 := blk_frozen BK142.out 10; have hfz52_11 := blk_frozen BK142.out 11; have hfz52_12 := blk_frozen BK142.out 12; have p148 : 0 ≤ ((ji41) : Int) := of_decide_eq_true (by first | (with_reducible assumption) | assumption); have q148 : (ji41) < (t143.length : Int) := of_decide_eq_true (by first | (with_reducible assumption) | assumption); obtain ⟨ad148, e148, hx148_0⟩ := Kd.at_int (Kd.R_reads' HO_4.out).2.2 (ji41) p148 q148; obtain rfl : ad146 = ad148 := (by injection e148); replace p148 := eq_true p148; replace q148 := eq_true q148))
                                  go_roundg k2
                                  case measure => have := HJ1.out; have := HK2.out; omega
                                  case rel => exact ⟨(wrap64 (x26_2 + 1)), (by first | rfl | (simp; done) | (simp [*]; done)), H', ⟨by have := HJ1.out; have := HK2.out; omega⟩, ⟨by (with_reducible repeat (first | apply Kd.R_alloc | apply Kd.R_drewN | apply Kd.R_drew)); exact HO_4.out⟩, ⟨by (with_reducible repeat (first | apply Kd.R_alloc | apply Kd.R_drewN | apply Kd.R_drew)); exact HO_24.out⟩, ⟨by (with_reducible repeat (first | refine blk_drewN ?_ _ | refine blk_drew ?_ | refine blk_alloc ?_ _)); exact BK125.out⟩, ⟨by (with_reducible repeat (first | refine blk_drewN ?_ _ | refine blk_drew ?_ | refine blk_alloc ?_ _)); exact BK142.out⟩, ⟨by repeat (first | (with_reducible first | exact HB.out | apply below_alloc | apply pw_below_drewN | apply below_drew1 | refine below_set ?_ GE125.out | refine below_set ?_ GE142.out) | exact HB.out)⟩⟩
                              · rw [if_neg c43] at H
                                exact absurd H (by simp)
                            · rw [if_neg c42] at H
                              exact absurd H (by simp)
                          · rw [if_neg c40] at H
                            have c40b0 : decide (0 < x26_2) = false := decide_eq_false c40
                            clear c40
                            have H' := Aside0.mk H
                            clear H
                            have p146 : 0 ≤ (x26_2 : Int) := of_decide_eq_true (by first | (with_reducible assumption) | assumption)
                            have q146 : x26_2 < (t143.length : Int) := of_decide_eq_true (by first | (with_reducible assumption) | assumption)
                            obtain ⟨ad146, e146, hx146_0⟩ := Kd.at_int (Kd.R_reads' HO_24.out).2.2 x26_2 p146 q146
                            cases e146
                            replace p146 := eq_true p146
                            replace q146 := eq_true q146
                            have hnb53 := NB142_125.out
                            have hnc53 := NB125_142.out
                            have hcz54_0 : wr.cell? ⟨gb142, 0, none⟩ = some (.int .i64 t129) := (blk_cell BK142.out 0).trans rfl
                            have hcz54_1 : wr.cell? ⟨gb142, 1, none⟩ = some (.int .i64 t130) := (blk_cell BK142.out 1).trans rfl
                            have hcz54_2 : wr.cell? ⟨gb142, 2, none⟩ = some (.int .i64 t131) := (blk_cell BK142.out 2).trans rfl
                            have hcz54_3 : wr.cell? ⟨gb142, 3, none⟩ = some (.int .i64 t132) := (blk_cell BK142.out 3).trans rfl
                            have hcz54_4 : wr.cell? ⟨gb142, 4, none⟩ = some (.int .i64 t133) := (blk_cell BK142.out 4).trans rfl
                            have hcz54_5 : wr.cell? ⟨gb142, 5, none⟩ = some (.int .i64 t134) := (blk_cell BK142.out 5).trans rfl
                            have hcz54_6 : wr.cell? ⟨gb142, 6, none⟩ = some (.int .i64 t135) := (blk_cell BK142.out 6).trans rfl
                            have hcz54_7 : wr.cell? ⟨gb142, 7, none⟩ = some (.int .i64 t136) := (blk_cell BK142.out 7).trans rfl
                            have hcz54_8 : wr.cell? ⟨gb142, 8, none⟩ = some (.int .i64 t137) := (blk_cell BK142.out 8).trans rfl
                            have hcz54_9 : wr.cell? ⟨gb142, 9, none⟩ = some (.int .i64 t138) := (blk_cell BK142.out 9).trans rfl
                            have hcz54_10 : wr.cell? ⟨gb142, 10, none⟩ = some (.int .i64 t139) := (blk_cell BK142.out 10).trans rfl
                            have hcz54_11 : wr.cell? ⟨gb142, 11, none⟩ = some (.int .i64 t140) := (blk_cell BK142.out 11).trans rfl
                            have hcz54_12 : wr.cell? ⟨gb142, 12, none⟩ = some (.int .i64 t141) := (blk_cell BK142.out 12).trans rfl
                            have hfz54_0 := blk_frozen BK142.out 0
                            have hfz54_1 := blk_frozen BK142.out 1
                            have hfz54_2 := blk_frozen BK142.out 2
                            have hfz54_3 := blk_frozen BK142.out 3
                            have hfz54_4 := blk_frozen BK142.out 4
                            have hfz54_5 := blk_frozen BK142.out 5
                            have hfz54_6 := blk_frozen BK142.out 6
                            have hfz54_7 := blk_frozen BK142.out 7
                            have hfz54_8 := blk_frozen BK142.out 8
                            have hfz54_9 := blk_frozen BK142.out 9
                            have hfz54_10 := blk_frozen BK142.out 10
                            have hfz54_11 := blk_frozen BK142.out 11
                            have hfz54_12 := blk_frozen BK142.out 12
                            go_wp2_with (first | ((with_reducible refine gate_callee (f := 25) rfl ?_); refine goesL_ (some 37) rfl rfl Try.func25 (by kernel_rfl) rfl #[.int .i64 t138, .int .i64 t139, .int .i64 x26_2] rfl (by (try simp only [List.map_toArray, List.map_cons, List.map_nil]); first | done | rfl | (simp only [List.length_drop, List.length_take]; rfl)) ?_; (with_reducible refine (backoff_Wait.calls k2 t138 t139 x26_2 t147 _ A28.out).mono ?_); rintro e w55 ⟨rfl, hb⟩; refine ⟨_, rfl, ?_⟩; have n0_ := Aside0.mk (Kd.R_below (by (with_reducible repeat (first | apply Kd.R_alloc | apply Kd.R_drewN | apply Kd.R_drew)); exact HO_4.out) hb); have n1_ := Aside0.mk (Kd.R_below (by (with_reducible repeat (first | apply Kd.R_alloc | apply Kd.R_drewN | apply Kd.R_drew)); exact HO_24.out) hb); have n2_ := Aside0.mk (blk_below (g := gb125) (o := .cells #[.int .i64 a0_0, .int .i64 a0_1, .int .i64 a0_2, .int .i64 a0_3, .int .i64 a0_4, .int .i64 a0_5, .int .i64 a0_6, .int .i64 a0_7, .int .i64 a0_8, .int .i64 a0_9, .int .i64 a0_10, .int .i64 a0_11, .int .i64 a0_12] 33 (0, 0)) (by (with_reducible repeat (first | refine blk_drewN ?_ _ | refine blk_drew ?_ | refine blk_alloc ?_ _)); exact BK125.out) hb); have n3_ := Aside0.mk (blk_below (g := gb142) (o := .cells #[.int .i64 t129, .int .i64 t130, .int .i64 t131, .int .i64 t132, .int .i64 t133, .int .i64 t134, .int .i64 t135, .int .i64 t136, .int .i64 t137, .int .i64 t138, .int .i64 t139, .int .i64 t140, .int .i64 t141] 36 (0, 0)) (by (with_reducible repeat (first | refine blk_drewN ?_ _ | refine blk_drew ?_ | refine blk_alloc ?_ _)); exact BK142.out) hb); have n4_ := Aside0.mk (below_step (by repeat (first | (with_reducible first | exact HB.out | apply below_alloc | apply pw_below_drewN | apply below_drew1 | refine below_set ?_ GE125.out | refine below_set ?_ GE142.out) | exact HB.out)) hb); clear HO_4; clear HO_24; clear BK125; clear BK142; clear HB; have HO_4 := n0_; have HO_24 := n1_; have BK125 := n2_; have BK142 := n3_; have HB := n4_; clear n0_ n1_ n2_ n3_ n4_; (try clear hb); (try clear hb2); (try clear hk); (try clear hi); have hcz56_0 : w55.cell? ⟨gb142, 0, none⟩ = some (.int .i64 t129) := (blk_cell BK142.out 0).trans rfl; have hcz56_1 : w55.cell? ⟨gb142, 1, none⟩ = some (.int .i64 t130) := (blk_cell BK142.out 1).trans rfl; have hcz56_2 : w55.cell? ⟨gb142, 2, none⟩ = some (.int .i64 t131) := (blk_cell BK142.out 2).trans rfl; have hcz56_3 : w55.cell? ⟨gb142, 3, none⟩ = some (.int .i64 t132) := (blk_cell BK142.out 3).trans rfl; have hcz56_4 : w55.cell? ⟨gb142, 4, none⟩ = some (.int .i64 t133) := (blk_cell BK142.out 4).trans rfl; have hcz56_5 : w55.cell? ⟨gb142, 5, none⟩ = some (.int .i64 t134) := (blk_cell BK142.out 5).trans rfl; have hcz56_6 : w55.cell? ⟨gb142, 6, none⟩ = some (.int .i64 t135) := (blk_cell BK142.out 6).trans rfl; have hcz56_7 : w55.cell? ⟨gb142, 7, none⟩ = some (.int .i64 t136) := (blk_cell BK142.out 7).trans rfl; have hcz56_8 : w55.cell? ⟨gb142, 8, none⟩ = some (.int .i64 t137) := (blk_cell BK142.out 8).trans rfl; have hcz56_9 : w55.cell? ⟨gb142, 9, none⟩ = some (.int .i64 t138) := (blk_cell BK142.out 9).trans rfl; have hcz56_10 : w55.cell? ⟨gb142, 10, none⟩ = some (.int .i64 t139) := (blk_cell BK142.out 10).trans rfl; have hcz56_11 : w55.cell? ⟨gb142, 11, none⟩ = some (.int .i64 t140) := (blk_cell BK142.out 11).trans rfl; have hcz56_12 : w55.cell? ⟨gb142, 12, none⟩ = some (.int .i64 t141) := (blk_cell BK142.out 12).trans rfl; have hfz56_0 := blk_frozen BK142.out 0; have hfz56_1 := blk_frozen BK142.out 1; have hfz56_2 := blk_frozen BK142.out 2; have hfz56_3 := blk_frozen BK142.out 3; have hfz56_4 := blk_frozen BK142.out 4; have hfz56_5 := blk_frozen BK142.out 5; have hfz56_6 := blk_frozen BK142.out 6; have hfz56_7 := blk_frozen BK142.out 7; have hfz56_8 := blk_frozen BK142.out 8; have hfz56_9 := blk_frozen BK142.out 9; have hfz56_10 := blk_frozen BK142.out 10; have hfz56_11 := blk_frozen BK142.out 11; have hfz56_12 := blk_frozen BK142.out 12))
                            go_roundg k2
                            case measure => have := HJ1.out; have := HK2.out; omega
                            case rel => exact ⟨(wrap64 (x26_2 + 1)), (by first | rfl | (simp; done) | (simp [*]; done)), H', ⟨by have := HJ1.out; have := HK2.out; omega⟩, ⟨by (with_reducible repeat (first | apply Kd.R_alloc | apply Kd.R_drewN | apply Kd.R_drew)); exact HO_4.out⟩, ⟨by (with_reducible repeat (first | apply Kd.R_alloc | apply Kd.R_drewN | apply Kd.R_drew)); exact HO_24.out⟩, ⟨by (with_reducible repeat (first | refine blk_drewN ?_ _ | refine blk_drew ?_ | refine blk_alloc ?_ _)); exact BK125.out⟩, ⟨by (with_reducible repeat (first | refine blk_drewN ?_ _ | refine blk_drew ?_ | refine blk_alloc ?_ _)); exact BK142.out⟩, ⟨by repeat (first | (with_reducible first | exact HB.out | apply below_alloc | apply pw_below_drewN | apply below_drew1 | refine below_set ?_ GE125.out | refine below_set ?_ GE142.out) | exact HB.out)⟩⟩
                    · rw [if_neg c29] at H
                      have c29b0 : ((rd t143 x26_2) == t147) = false := beq_eq_false_iff_ne.mpr c29
                      have c29b1 : ((rd t143 x26_2) != t147) = true := bne_iff_ne.mpr c29
                      obtain rfl := Option.some.inj H
                      have p146 : 0 ≤ (x26_2 : Int) := of_decide_eq_true (by first | (with_reducible assumption) | assumption)
                      have q146 : x26_2 < (t143.length : Int) := of_decide_eq_true (by first | (with_reducible assumption) | assumption)
                      obtain ⟨ad146, e146, hx146_0⟩ := Kd.at_int (Kd.R_reads' HO_24.out).2.2 x26_2 p146 q146
                      cases e146
                      replace p146 := eq_true p146
                      replace q146 := eq_true q146
                      have hnb57 := NB142_125.out
                      have hnc57 := NB125_142.out
                      have hcz58_0 : wr.cell? ⟨gb142, 0, none⟩ = some (.int .i64 t129) := (blk_cell BK142.out 0).trans rfl
                      have hcz58_1 : wr.cell? ⟨gb142, 1, none⟩ = some (.int .i64 t130) := (blk_cell BK142.out 1).trans rfl
                      have hcz58_2 : wr.cell? ⟨gb142, 2, none⟩ = some (.int .i64 t131) := (blk_cell BK142.out 2).trans rfl
                      have hcz58_3 : wr.cell? ⟨gb142, 3, none⟩ = some (.int .i64 t132) := (blk_cell BK142.out 3).trans rfl
                      have hcz58_4 : wr.cell? ⟨gb142, 4, none⟩ = some (.int .i64 t133) := (blk_cell BK142.out 4).trans rfl
                      have hcz58_5 : wr.cell? ⟨gb142, 5, none⟩ = some (.int .i64 t134) := (blk_cell BK142.out 5).trans rfl
                      have hcz58_6 : wr.cell? ⟨gb142, 6, none⟩ = some (.int .i64 t135) := (blk_cell BK142.out 6).trans rfl
                      have hcz58_7 : wr.cell? ⟨gb142, 7, none⟩ = some (.int .i64 t136) := (blk_cell BK142.out 7).trans rfl
                      have hcz58_8 : wr.cell? ⟨gb142, 8, none⟩ = some (.int .i64 t137) := (blk_cell BK142.out 8).trans rfl
                      have hcz58_9 : wr.cell? ⟨gb142, 9, none⟩ = some (.int .i64 t138) := (blk_cell BK142.out 9).trans rfl
                      have hcz58_10 : wr.cell? ⟨gb142, 10, none⟩ = some (.int .i64 t139) := (blk_cell BK142.out 10).trans rfl
                      have hcz58_11 : wr.cell? ⟨gb142, 11, none⟩ = some (.int .i64 t140) := (blk_cell BK142.out 11).trans rfl
                      have hcz58_12 : wr.cell? ⟨gb142, 12, none⟩ = some (.int .i64 t141) := (blk_cell BK142.out 12).trans rfl
                      have hfz58_0 := blk_frozen BK142.out 0
                      have hfz58_1 := blk_frozen BK142.out 1
                      have hfz58_2 := blk_frozen BK142.out 2
                      have hfz58_3 := blk_frozen BK142.out 3
                      have hfz58_4 := blk_frozen BK142.out 4
                      have hfz58_5 := blk_frozen BK142.out 5
                      have hfz58_6 := blk_frozen BK142.out 6
                      have hfz58_7 := blk_frozen BK142.out 7
                      have hfz58_8 := blk_frozen BK142.out 8
                      have hfz58_9 := blk_frozen BK142.out 9
                      have hfz58_10 := blk_frozen BK142.out 10
                      have hfz58_11 := blk_frozen BK142.out 11
                      have hfz58_12 := blk_frozen BK142.out 12
                      go_wp2_with (first | ((with_reducible refine gate_callee (f := 25) rfl ?_); refine goesL_ (some 37) rfl rfl Try.func25 (by kernel_rfl) rfl #[.int .i64 t138, .int .i64 t139, .int .i64 x26_2] rfl (by (try simp only [List.map_toArray, List.map_cons, List.map_nil]); first | done | rfl | (simp only [List.length_drop, List.length_take]; rfl)) ?_; (with_reducible refine (backoff_Wait.calls k2 t138 t139 x26_2 t147 _ A28.out).mono ?_); rintro e w59 ⟨rfl, hb⟩; refine ⟨_, rfl, ?_⟩; have n0_ := Aside0.mk (Kd.R_below (by (with_reducible repeat (first | apply Kd.R_alloc | apply Kd.R_drewN | apply Kd.R_drew)); exact HO_4.out) hb); have n1_ := Aside0.mk (Kd.R_below (by (with_reducible repeat (first | apply Kd.R_alloc | apply Kd.R_drewN | apply Kd.R_drew)); exact HO_24.out) hb); have n2_ := Aside0.mk (blk_below (g := gb125) (o := .cells #[.int .i64 a0_0, .int .i64 a0_1, .int .i64 a0_2, .int .i64 a0_3, .int .i64 a0_4, .int .i64 a0_5, .int .i64 a0_6, .int .i64 a0_7, .int .i64 a0_8, .int .i64 a0_9, .int .i64 a0_10, .int .i64 a0_11, .int .i64 a0_12] 33 (0, 0)) (by (with_reducible repeat (first | refine blk_drewN ?_ _ | refine blk_drew ?_ | refine blk_alloc ?_ _)); exact BK125.out) hb); have n3_ := Aside0.mk (blk_below (g := gb142) (o := .cells #[.int .i64 t129, .int .i64 t130, .int .i64 t131, .int .i64 t132, .int .i64 t133, .int .i64 t134, .int .i64 t135, .int .i64 t136, .int .i64 t137, .int .i64 t138, .int .i64 t139, .int .i64 t140, .int .i64 t141] 36 (0, 0)) (by (with_reducible repeat (first | refine blk_drewN ?_ _ | refine blk_drew ?_ | refine blk_alloc ?_ _)); exact BK142.out) hb); have n4_ := Aside0.mk (below_step (by repeat (first | (with_reducible first | exact HB.out | apply below_alloc | apply pw_below_drewN | apply below_drew1 | refine below_set ?_ GE125.out | refine below_set ?_ GE142.out) | exact HB.out)) hb); clear HO_4; clear HO_24; clear BK125; clear BK142; clear HB; have HO_4 := n0_; have HO_24 := n1_; have BK125 := n2_; have BK142 := n3_; have HB := n4_; clear n0_ n1_ n2_ n3_ n4_; (try clear hb); (try clear hb2); (try clear hk); (try clear hi)))
                      go_ret
                      exact ⟨by first | rfl | (simp [errW_none, errW_some] <;> rfl) | (simp [*, errW_none, errW_some] <;> rfl), by repeat (first | (with_reducible first | exact HB.out | apply below_alloc | apply pw_below_drewN | apply below_drew1 | refine below_set ?_ GE125.out | refine below_set ?_ GE142.out) | exact HB.out)⟩
                  · rw [if_neg c27] at H
                    exact absurd H (by simp)
                · rw [if_neg c26] at H
                  exact absurd H (by simp)
              · rw [if_neg c25] at H
                have c25b0 : decide (x26_2 < (t143.length : Int)) = false := decide_eq_false c25
                clear c25
                obtain rfl := Option.some.inj H
                go_wp2
                go_ret
                exact ⟨by first | rfl | (simp [errW_none, errW_some] <;> rfl) | (simp [*, errW_none, errW_some] <;> rfl), by repeat (first | (with_reducible first | exact HB.out | apply below_alloc | apply pw_below_drewN | apply below_drew1 | refine below_set ?_ GE125.out | refine below_set ?_ GE142.out) | exact HB.out)⟩
        · rw [if_neg c16] at H
          have c16b0 : ((t143.length : Int) == t141) = false := beq_eq_false_iff_ne.mpr c16
          have c16b1 : ((t143.length : Int) != t141) = true := bne_iff_ne.mpr c16
          obtain rfl := Option.some.inj H
          have hcz60_0 : wc.cell? ⟨gb125, 0, none⟩ = some (.int .i64 a0_0) := (blk_cell BK125.out 0).trans rfl
          have hcz60_1 : wc.cell? ⟨gb125, 1, none⟩ = some (.int .i64 a0_1) := (blk_cell BK125.out 1).trans rfl
          have hcz60_2 : wc.cell? ⟨gb125, 2, none⟩ = some (.int .i64 a0_2) := (blk_cell BK125.out 2).trans rfl
          have hcz60_3 : wc.cell? ⟨gb125, 3, none⟩ = some (.int .i64 a0_3) := (blk_cell BK125.out 3).trans rfl
          have hcz60_4 : wc.cell? ⟨gb125, 4, none⟩ = some (.int .i64 a0_4) := (blk_cell BK125.out 4).trans rfl
          have hcz60_5 : wc.cell? ⟨gb125, 5, none⟩ = some (.int .i64 a0_5) := (blk_cell BK125.out 5).trans rfl
          have hcz60_6 : wc.cell? ⟨gb125, 6, none⟩ = some (.int .i64 a0_6) := (blk_cell BK125.out 6).trans rfl
          have hcz60_7 : wc.cell? ⟨gb125, 7, none⟩ = some (.int .i64 a0_7) := (blk_cell BK125.out 7).trans rfl
          have hcz60_8 : wc.cell? ⟨gb125, 8, none⟩ = some (.int .i64 a0_8) := (blk_cell BK125.out 8).trans rfl
          have hcz60_9 : wc.cell? ⟨gb125, 9, none⟩ = some (.int .i64 a0_9) := (blk_cell BK125.out 9).trans rfl
          have hcz60_10 : wc.cell? ⟨gb125, 10, none⟩ = some (.int .i64 a0_10) := (blk_cell BK125.out 10).trans rfl
          have hcz60_11 : wc.cell? ⟨gb125, 11, none⟩ = some (.int .i64 a0_11) := (blk_cell BK125.out 11).trans rfl
          have hcz60_12 : wc.cell? ⟨gb125, 12, none⟩ = some (.int .i64 a0_12) := (blk_cell BK125.out 12).trans rfl
          have hfz60_0 := blk_frozen BK125.out 0
          have hfz60_1 := blk_frozen BK125.out 1
          have hfz60_2 := blk_frozen BK125.out 2
          have hfz60_3 := blk_frozen BK125.out 3
          have hfz60_4 := blk_frozen BK125.out 4
          have hfz60_5 := blk_frozen BK125.out 5
          have hfz60_6 := blk_frozen BK125.out 6
          have hfz60_7 := blk_frozen BK125.out 7
          have hfz60_8 := blk_frozen BK125.out 8
          have hfz60_9 := blk_frozen BK125.out 9
          have hfz60_10 := blk_frozen BK125.out 10
          have hfz60_11 := blk_frozen BK125.out 11
          have hfz60_12 := blk_frozen BK125.out 12
          go_wp2_with (first | ((with_reducible refine gate_callee (f := 23) rfl ?_); refine goesL_ (some 16) rfl rfl Try.func23 (by kernel_rfl) rfl #[.agg #[.int .i64 a0_0, .int .i64 a0_1, .int .i64 a0_2, .int .i64 a0_3, .int .i64 a0_4, .int .i64 a0_5, .int .i64 a0_6, .int .i64 a0_7, .int .i64 a0_8, .int .i64 a0_9, .int .i64 a0_10, .int .i64 a0_11, .int .i64 a0_12]] rfl (by (try simp only [List.map_toArray, List.map_cons, List.map_nil]); first | done | rfl | (simp only [List.length_drop, List.length_take]; rfl)) ?_; (with_reducible refine (knelllaw03_Of.calls a0_0 a0_1 a0_2 a0_3 a0_4 a0_5 a0_6 a0_7 a0_8 a0_9 a0_10 a0_11 a0_12 t129 t130 t131 t132 t133 t134 t135 t136 t137 t138 t139 t140 t141 _ A14.out).mono ?_); rintro e w61 ⟨rfl, hb⟩; refine ⟨_, rfl, ?_⟩; have n0_ := Aside0.mk (blk_below (g := gb125) (o := .cells #[.int .i64 a0_0, .int .i64 a0_1, .int .i64 a0_2, .int .i64 a0_3, .int .i64 a0_4, .int .i64 a0_5, .int .i64 a0_6, .int .i64 a0_7, .int .i64 a0_8, .int .i64 a0_9, .int .i64 a0_10, .int .i64 a0_11, .int .i64 a0_12] 33 (0, 0)) (by (with_reducible repeat (first | refine blk_drewN ?_ _ | refine blk_drew ?_ | refine blk_alloc ?_ _)); exact BK125.out) hb); have n1_ := Aside0.mk (below_step (by repeat (first | (with_reducible first | exact HB.out | apply below_alloc | apply pw_below_drewN | apply below_drew1 | refine below_set ?_ GE125.out) | exact HB.out)) hb); clear BK125; clear HB; have BK125 := n0_; have HB := n1_; clear n0_ n1_; (try clear hb); (try clear hb2); (try clear hk); (try clear hi)) | ((with_reducible refine gate_dst (N := 3) rfl ?_); refine box_event ?hg (N := 3) ?hd (cs := #[.int .i64 0, .int .i64 0, .int .i64 0, .int .i64 0, .int .i64 0, .int .i64 0, .int .i64 0, .int .i64 0, .int .i64 0, .int .i64 0, .int .i64 0, .int .i64 0, .int .i64 0]) (t := 36) ?hr ?_; (case hd => rfl); (case hg => rfl); (case hr => first | (go_simp; done) | (go_simp; rfl)); intro gb142 hg w62 hbox hb; have n0_ := Aside0.mk (blk_below (g := gb125) (o := .cells #[.int .i64 a0_0, .int .i64 a0_1, .int .i64 a0_2, .int .i64 a0_3, .int .i64 a0_4, .int .i64 a0_5, .int .i64 a0_6, .int .i64 a0_7, .int .i64 a0_8, .int .i64 a0_9, .int .i64 a0_10, .int .i64 a0_11, .int .i64 a0_12] 33 (0, 0)) (by (with_reducible repeat (first | refine blk_drewN ?_ _ | refine blk_drew ?_ | refine blk_alloc ?_ _)); exact BK125.out) hb); have n1_ := Aside0.mk (below_step (by repeat (first | (with_reducible first | exact HB.out | apply below_alloc | apply pw_below_drewN | apply below_drew1 | refine below_set ?_ GE125.out) | exact HB.out)) hb); have n2_ := Aside0.mk (hbox); have n3_ := Aside0.mk ((by rw [hg]; exact (below_size (by repeat (first | (with_reducible first | exact HB.out | apply below_alloc | apply pw_below_drewN | apply below_drew1 | refine below_set ?_ GE125.out) | exact HB.out))) : w.heap.size ≤ gb142)); have n4_ := Aside0.mk ((by rw [hg]; exact (below_size (by repeat (first | (with_reducible first | exact HB.out | apply below_alloc | apply pw_below_drewN | apply below_drew1 | refine below_set ?_ GE125.out) | exact HB.out))) : w.heap.size ≤ gb142)); have n5_ := Aside0.mk ((by rw [hg]; exact Nat.ne_of_lt (blk_lt (g := gb125) (o := .cells #[.int .i64 a0_0, .int .i64 a0_1, .int .i64 a0_2, .int .i64 a0_3, .int .i64 a0_4, .int .i64 a0_5, .int .i64 a0_6, .int .i64 a0_7, .int .i64 a0_8, .int .i64 a0_9, .int .i64 a0_10, .int .i64 a0_11, .int .i64 a0_12] 33 (0, 0)) (by (with_reducible repeat (first | refine blk_drewN ?_ _ | refine blk_drew ?_ | refine blk_alloc ?_ _)); exact BK125.out)) : gb125 ≠ gb142)); have n6_ := Aside0.mk ((by rw [hg]; exact Nat.ne_of_gt (blk_lt (g := gb125) (o := .cells #[.int .i64 a0_0, .int .i64 a0_1, .int .i64 a0_2, .int .i64 a0_3, .int .i64 a0_4, .int .i64 a0_5, .int .i64 a0_6, .int .i64 a0_7, .int .i64 a0_8, .int .i64 a0_9, .int .i64 a0_10, .int .i64 a0_11, .int .i64 a0_12] 33 (0, 0)) (by (with_reducible repeat (first | refine blk_drewN ?_ _ | refine blk_drew ?_ | refine blk_alloc ?_ _)); exact BK125.out)) : gb142 ≠ gb125)); clear BK125; clear HB; have BK125 := n0_; have HB := n1_; have BK142 := n2_; have GW142 := n3_; have GE142 := n4_; have NB125_142 := n5_; have NB142_125 := n6_; clear n0_ n1_ n2_ n3_ n4_ n5_ n6_; clear hb hbox hg; have hnb63 := NB142_125.out; have hnc63 := NB125_142.out; have hcz64_0 : w62.cell? ⟨gb142, 0, none⟩ = some (.int .i64 0) := (blk_cell BK142.out 0).trans rfl; have hcz64_1 : w62.cell? ⟨gb142, 1, none⟩ = some (.int .i64 0) := (blk_cell BK142.out 1).trans rfl; have hcz64_2 : w62.cell? ⟨gb142, 2, none⟩ = some (.int .i64 0) := (blk_cell BK142.out 2).trans rfl; have hcz64_3 : w62.cell? ⟨gb142, 3, none⟩ = some (.int .i64 0) := (blk_cell BK142.out 3).trans rfl; have hcz64_4 : w62.cell? ⟨gb142, 4, none⟩ = some (.int .i64 0) := (blk_cell BK142.out 4).trans rfl; have hcz64_5 : w62.cell? ⟨gb142, 5, none⟩ = some (.int .i64 0) := (blk_cell BK142.out 5).trans rfl; have hcz64_6 : w62.cell? ⟨gb142, 6, none⟩ = some (.int .i64 0) := (blk_cell BK142.out 6).trans rfl; have hcz64_7 : w62.cell? ⟨gb142, 7, none⟩ = some (.int .i64 0) := (blk_cell BK142.out 7).trans rfl; have hcz64_8 : w62.cell? ⟨gb142, 8, none⟩ = some (.int .i64 0) := (blk_cell BK142.out 8).trans rfl; have hcz64_9 : w62.cell? ⟨gb142, 9, none⟩ = some (.int .i64 0) := (blk_cell BK142.out 9).trans rfl; have hcz64_10 : w62.cell? ⟨gb142, 10, none⟩ = some (.int .i64 0) := (blk_cell BK142.out 10).trans rfl; have hcz64_11 : w62.cell? ⟨gb142, 11, none⟩ = some (.int .i64 0) := (blk_cell BK142.out 11).trans rfl; have hcz64_12 : w62.cell? ⟨gb142, 12, none⟩ = some (.int .i64 0) := (blk_cell BK142.out 12).trans rfl; have hfz64_0 := blk_frozen BK142.out 0; have hfz64_1 := blk_frozen BK142.out 1; have hfz64_2 := blk_frozen BK142.out 2; have hfz64_3 := blk_frozen BK142.out 3; have hfz64_4 := blk_frozen BK142.out 4; have hfz64_5 := blk_frozen BK142.out 5; have hfz64_6 := blk_frozen BK142.out 6; have hfz64_7 := blk_frozen BK142.out 7; have hfz64_8 := blk_frozen BK142.out 8; have hfz64_9 := blk_frozen BK142.out 9; have hfz64_10 := blk_frozen BK142.out 10; have hfz64_11 := blk_frozen BK142.out 11; have hfz64_12 := blk_frozen BK142.out 12) | ((with_reducible refine gate_callee (f := 24) rfl ?_); refine goesL_ (some 18) rfl rfl Try.func24 (by kernel_rfl) rfl #[.agg #[.int .i64 t129, .int .i64 t130, .int .i64 t131, .int .i64 t132, .int .i64 t133, .int .i64 t134, .int .i64 t135, .int .i64 t136, .int .i64 t137, .int .i64 t138, .int .i64 t139, .int .i64 t140, .int .i64 t141]] rfl (by (try simp only [List.map_toArray, List.map_cons, List.map_nil]); first | done | rfl | (simp only [List.length_drop, List.length_take]; rfl)) ?_; (with_reducible refine (backoff_All.calls kj1 t129 t130 t131 t132 t133 t134 t135 t136 t137 t138 t139 t140 t141 t143 _ A15.out).mono ?_); rintro e w65 ⟨v144, rfl, ho0, hb⟩; refine ⟨_, rfl, ?_⟩; have n0_ := Aside0.mk (Kd.R_lower ho0 (below_size (by repeat (first | (with_reducible first | exact HB.out | apply below_alloc | apply pw_below_drewN | apply below_drew1 | refine below_set ?_ GE125.out | refine below_set ?_ GE142.out) | exact HB.out)))); have n1_ := Aside0.mk (blk_below (g := gb125) (o := .cells #[.int .i64 a0_0, .int .i64 a0_1, .int .i64 a0_2, .int .i64 a0_3, .int .i64 a0_4, .int .i64 a0_5, .int .i64 a0_6, .int .i64 a0_7, .int .i64 a0_8, .int .i64 a0_9, .int .i64 a0_10, .int .i64 a0_11, .int .i64 a0_12] 33 (0, 0)) (by (with_reducible repeat (first | refine blk_drewN ?_ _ | refine blk_drew ?_ | refine blk_alloc ?_ _)); refine blk_far ?_ NB125_142.out _; (with_reducible repeat (first | refine blk_drewN ?_ _ | refine blk_drew ?_ | refine blk_alloc ?_ _)); refine blk_far ?_ NB125_142.out _; (with_reducible repeat (first | refine blk_drewN ?_ _ | refine blk_drew ?_ | refine blk_alloc ?_ _)); refine blk_far ?_ NB125_142.out _; (with_reducible repeat (first | refine blk_drewN ?_ _ | refine blk_drew ?_ | refine blk_alloc ?_ _)); refine blk_far ?_ NB125_142.out _; (with_reducible repeat (first | refine blk_drewN ?_ _ | refine blk_drew ?_ | refine blk_alloc ?_ _)); refine blk_far ?_ NB125_142.out _; (with_reducible repeat (first | refine blk_drewN ?_ _ | refine blk_drew ?_ | refine blk_alloc ?_ _)); refine blk_far ?_ NB125_142.out _; (with_reducible repeat (first | refine blk_drewN ?_ _ | refine blk_drew ?_ | refine blk_alloc ?_ _)); refine blk_far ?_ NB125_142.out _; (with_reducible repeat (first | refine blk_drewN ?_ _ | refine blk_drew ?_ | refine blk_alloc ?_ _)); refine blk_far ?_ NB125_142.out _; (with_reducible repeat (first | refine blk_drewN ?_ _ | refine blk_drew ?_ | refine blk_alloc ?_ _)); refine blk_far ?_ NB125_142.out _; (with_reducible repeat (first | refine blk_drewN ?_ _ | refine blk_drew ?_ | refine blk_alloc ?_ _)); refine blk_far ?_ NB125_142.out _; (with_reducible repeat (first | refine blk_drewN ?_ _ | refine blk_drew ?_ | refine blk_alloc ?_ _)); refine blk_far ?_ NB125_142.out _; (with_reducible repeat (first | refine blk_drewN ?_ _ | refine blk_drew ?_ | refine blk_alloc ?_ _)); refine blk_far ?_ NB125_142.out _; (with_reducible repeat (first | refine blk_drewN ?_ _ | refine blk_drew ?_ | refine blk_alloc ?_ _)); refine blk_far ?_ NB125_142.out _; (with_reducible repeat (first | refine blk_drewN ?_ _ | refine blk_drew ?_ | refine blk_alloc ?_ _)); exact BK125.out) hb); have n2_ := Aside0.mk (blk_below (g := gb142) (o := .cells #[.int .i64 t129, .int .i64 t130, .int .i64 t131, .int .i64 t132, .int .i64 t133, .int .i64 t134, .int .i64 t135, .int .i64 t136, .int .i64 t137, .int .i64 t138, .int .i64 t139, .int .i64 t140, .int .i64 t141] 36 (0, 0)) (by (with_reducible repeat (first | refine blk_drewN ?_ _ | refine blk_drew ?_ | refine blk_alloc ?_ _)); refine blk_put (cs := #[.int .i64 t129, .int .i64 t130, .int .i64 t131, .int .i64 t132, .int .i64 t133, .int .i64 t134, .int .i64 t135, .int .i64 t136, .int .i64 t137, .int .i64 t138, .int .i64 t139, .int .i64 t140, .int .i64 0]) ?_ 12 _ rfl; (with_reducible repeat (first | refine blk_drewN ?_ _ | refine blk_drew ?_ | refine blk_alloc ?_ _)); refine blk_put (cs := #[.int .i64 t129, .int .i64 t130, .int .i64 t131, .int .i64 t132, .int .i64 t133, .int .i64 t134, .int .i64 t135, .int .i64 t136, .int .i64 t137, .int .i64 t138, .int .i64 t139, .int .i64 0, .int .i64 0]) ?_ 11 _ rfl; (with_reducible repeat (first | refine blk_drewN ?_ _ | refine blk_drew ?_ | refine blk_alloc ?_ _)); refine blk_put (cs := #[.int .i64 t129, .int .i64 t130, .int .i64 t131, .int .i64 t132, .int .i64 t133, .int .i64 t134, .int .i64 t135, .int .i64 t136, .int .i64 t137, .int .i64 t138, .int .i64 0, .int .i64 0, .int .i64 0]) ?_ 10 _ rfl; (with_reducible repeat (first | refine blk_drewN ?_ _ | refine blk_drew ?_ | refine blk_alloc ?_ _)); refine blk_put (cs := #[.int .i64 t129, .int .i64 t130, .int .i64 t131, .int .i64 t132, .int .i64 t133, .int .i64 t134, .int .i64 t135, .int .i64 t136, .int .i64 t137, .int .i64 0, .int .i64 0, .int .i64 0, .int .i64 0]) ?_ 9 _ rfl; (with_reducible repeat (first | refine blk_drewN ?_ _ | refine blk_drew ?_ | refine blk_alloc ?_ _)); refine blk_put (cs := #[.int .i64 t129, .int .i64 t130, .int .i64 t131, .int .i64 t132, .int .i64 t133, .int .i64 t134, .int .i64 t135, .int .i64 t136, .int .i64 0, .int .i64 0, .int .i64 0, .int .i64 0, .int .i64 0]) ?_ 8 _ rfl; (with_reducible repeat (first | refine blk_drewN ?_ _ | refine blk_drew ?_ | refine blk_alloc ?_ _)); refine blk_put (cs := #[.int .i64 t129, .int .i64 t130, .int .i64 t131, .int .i64 t132, .int .i64 t133, .int .i64 t134, .int .i64 t135, .int .i64 0, .int .i64 0, .int .i64 0, .int .i64 0, .int .i64 0, .int .i64 0]) ?_ 7 _ rfl; (with_reducible repeat (first | refine blk_drewN ?_ _ | refine blk_drew ?_ | refine blk_alloc ?_ _)); refine blk_put (cs := #[.int .i64 t129, .int .i64 t130, .int .i64 t131, .int .i64 t132, .int .i64 t133, .int .i64 t134, .int .i64 0, .int .i64 0, .int .i64 0, .int .i64 0, .int .i64 0, .int .i64 0, .int .i64 0]) ?_ 6 _ rfl; (with_reducible repeat (first | refine blk_drewN ?_ _ | refine blk_drew ?_ | refine blk_alloc ?_ _)); refine blk_put (cs := #[.int .i64 t129, .int .i64 t130, .int .i64 t131, .int .i64 t132, .int .i64 t133, .int .i64 0, .int .i64 0, .int .i64 0, .int .i64 0, .int .i64 0, .int .i64 0, .int .i64 0, .int .i64 0]) ?_ 5 _ rfl; (with_reducible repeat (first | refine blk_drewN ?_ _ | refine blk_drew ?_ | refine blk_alloc ?_ _)); refine blk_put (cs := #[.int .i64 t129, .int .i64 t130, .int .i64 t131, .int .i64 t132, .int .i64 0, .int .i64 0, .int .i64 0, .int .i64 0, .int .i64 0, .int .i64 0, .int .i64 0, .int .i64 0, .int .i64 0]) ?_ 4 _ rfl; (with_reducible repeat (first | refine blk_drewN ?_ _ | refine blk_drew ?_ | refine blk_alloc ?_ _)); refine blk_put (cs := #[.int .i64 t129, .int .i64 t130, .int .i64 t131, .int .i64 0, .int .i64 0, .int .i64 0, .int .i64 0, .int .i64 0, .int .i64 0, .int .i64 0, .int .i64 0, .int .i64 0, .int .i64 0]) ?_ 3 _ rfl; (with_reducible repeat (first | refine blk_drewN ?_ _ | refine blk_drew ?_ | refine blk_alloc ?_ _)); refine blk_put (cs := #[.int .i64 t129, .int .i64 t130, .int .i64 0, .int .i64 0, .int .i64 0, .int .i64 0, .int .i64 0, .int .i64 0, .int .i64 0, .int .i64 0, .int .i64 0, .int .i64 0, .int .i64 0]) ?_ 2 _ rfl; (with_reducible repeat (first | refine blk_drewN ?_ _ | refine blk_drew ?_ | refine blk_alloc ?_ _)); refine blk_put (cs := #[.int .i64 t129, .int .i64 0, .int .i64 0, .int .i64 0, .int .i64 0, .int .i64 0, .int .i64 0, .int .i64 0, .int .i64 0, .int .i64 0, .int .i64 0, .int .i64 0, .int .i64 0]) ?_ 1 _ rfl; (with_reducible repeat (first | refine blk_drewN ?_ _ | refine blk_drew ?_ | refine blk_alloc ?_ _)); refine blk_put (cs := #[.int .i64 0, .int .i64 0, .int .i64 0, .int .i64 0, .int .i64 0, .int .i64 0, .int .i64 0, .int .i64 0, .int .i64 0, .int .i64 0, .int .i64 0, .int .i64 0, .int .i64 0]) ?_ 0 _ rfl; (with_reducible repeat (first | refine blk_drewN ?_ _ | refine blk_drew ?_ | refine blk_alloc ?_ _)); exact BK142.out) hb); have n3_ := Aside0.mk (below_step (by repeat (first | (with_reducible first | exact HB.out | apply below_alloc | apply pw_below_drewN | apply below_drew1 | refine below_set ?_ GE125.out | refine below_set ?_ GE142.out) | exact HB.out)) hb); clear BK125; clear BK142; clear HB; have HO145 := n0_; have BK125 := n1_; have BK142 := n2_; have HB := n3_; clear n0_ n1_ n2_ n3_; (try clear hb); (try clear hb2); (try clear hk); (try clear hi); (try clear ho0); obtain ⟨Ao66, co66, eo66⟩ := Kd.R_slice HO145.out; subst eo66; have hcz67_0 : w65.cell? ⟨gb142, 0, none⟩ = some (.int .i64 t129) := (blk_cell BK142.out 0).trans rfl; have hcz67_1 : w65.cell? ⟨gb142, 1, none⟩ = some (.int .i64 t130) := (blk_cell BK142.out 1).trans rfl; have hcz67_2 : w65.cell? ⟨gb142, 2, none⟩ = some (.int .i64 t131) := (blk_cell BK142.out 2).trans rfl; have hcz67_3 : w65.cell? ⟨gb142, 3, none⟩ = some (.int .i64 t132) := (blk_cell BK142.out 3).trans rfl; have hcz67_4 : w65.cell? ⟨gb142, 4, none⟩ = some (.int .i64 t133) := (blk_cell BK142.out 4).trans rfl; have hcz67_5 : w65.cell? ⟨gb142, 5, none⟩ = some (.int .i64 t134) := (blk_cell BK142.out 5).trans rfl; have hcz67_6 : w65.cell? ⟨gb142, 6, none⟩ = some (.int .i64 t135) := (blk_cell BK142.out 6).trans rfl; have hcz67_7 : w65.cell? ⟨gb142, 7, none⟩ = some (.int .i64 t136) := (blk_cell BK142.out 7).trans rfl; have hcz67_8 : w65.cell? ⟨gb142, 8, none⟩ = some (.int .i64 t137) := (blk_cell BK142.out 8).trans rfl; have hcz67_9 : w65.cell? ⟨gb142, 9, none⟩ = some (.int .i64 t138) := (blk_cell BK142.out 9).trans rfl; have hcz67_10 : w65.cell? ⟨gb142, 10, none⟩ = some (.int .i64 t139) := (blk_cell BK142.out 10).trans rfl; have hcz67_11 : w65.cell? ⟨gb142, 11, none⟩ = some (.int .i64 t140) := (blk_cell BK142.out 11).trans rfl; have hcz67_12 : w65.cell? ⟨gb142, 12, none⟩ = some (.int .i64 t141) := (blk_cell BK142.out 12).trans rfl; have hfz67_0 := blk_frozen BK142.out 0; have hfz67_1 := blk_frozen BK142.out 1; have hfz67_2 := blk_frozen BK142.out 2; have hfz67_3 := blk_frozen BK142.out 3; have hfz67_4 := blk_frozen BK142.out 4; have hfz67_5 := blk_frozen BK142.out 5; have hfz67_6 := blk_frozen BK142.out 6; have hfz67_7 := blk_frozen BK142.out 7; have hfz67_8 := blk_frozen BK142.out 8; have hfz67_9 := blk_frozen BK142.out 9; have hfz67_10 := blk_frozen BK142.out 10; have hfz67_11 := blk_frozen BK142.out 11; have hfz67_12 := blk_frozen BK142.out 12))
          go_ret
          exact ⟨by first | rfl | (simp [errW_none, errW_some] <;> rfl) | (simp [*, errW_none, errW_some] <;> rfl), by repeat (first | (with_reducible first | exact HB.out | apply below_alloc | apply pw_below_drewN | apply below_drew1 | refine below_set ?_ GE125.out | refine below_set ?_ GE142.out) | exact HB.out)⟩

/-! ### knellref04_Clock: function 61 -/
def knellref04_Clock.f (a0 : Int) : Option (Int) := if a0 < 0 then (some 0) else (if a0 > 1073741823 then (some 1073741823) else (some a0))
set_option maxHeartbeats 8000000 in
set_option maxRecDepth 100000 in
theorem knellref04_Clock.calls (a0 : Int) (r : Int) (w : World) (h : knellref04_Clock.f a0 = some r) :
    Calls Try.prog 61 #[.int .i64 a0] w fun e w' => e = .returned (.int .i64 r) ∧ Drawn0 w w' := by
  have H : (if a0 < 0 then (some 0) else (if a0 > 1073741823 then (some 1073741823) else (some a0))) = some r := h
  clear h
  by_cases c2 : a0 < 0
  · rw [if_pos c2] at H
    have c2b0 : decide (a0 < 0) = true := decide_eq_true c2
    clear c2
    obtain rfl := Option.some.inj H
    go_enter Try.func61, Try.ntmps61
    go_wp2
    go_ret
    exact ⟨by first | rfl | (simp; done) | (simp [*]; done), by repeat (first | exact Drawn0.refl _ | apply Drawn0.step)⟩
  · rw [if_neg c2] at H
    have c2b0 : decide (a0 < 0) = false := decide_eq_false c2
    clear c2
    by_cases c3 : a0 > 1073741823
    · rw [if_pos c3] at H
      have c3b0 : decide (1073741823 < a0) = true := decide_eq_true c3
      clear c3
      obtain rfl := Option.some.inj H
      go_enter Try.func61, Try.ntmps61
      go_wp2
      go_ret
      exact ⟨by first | rfl | (simp; done) | (simp [*]; done), by repeat (first | exact Drawn0.refl _ | apply Drawn0.step)⟩
    · rw [if_neg c3] at H
      have c3b0 : decide (1073741823 < a0) = false := decide_eq_false c3
      clear c3
      obtain rfl := Option.some.inj H
      go_enter Try.func61, Try.ntmps61
      go_wp2
      go_ret
      exact ⟨by first | rfl | (simp; done) | (simp [*]; done), by repeat (first | exact Drawn0.refl _ | apply Drawn0.step)⟩

end Go.Proofs.Ythljanmfanppdaa.KBack
