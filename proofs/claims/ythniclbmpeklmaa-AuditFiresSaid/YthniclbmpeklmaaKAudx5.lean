/- What is proved: each Go function named here comes to what the plain function of its name comes to, whatever the memory; no conditions. Written by a program of this session (kp.py) over the kit's print. -/
import Derived.Test.YthniclbmpeklmaaKAudx0
namespace Go.Proofs.Ythniclbmpeklmaa.KAud
open Go.RowKit Go.Proofs.YthniclbmpeklmaaW.PrintWords Go.Proofs.YthniclbmpeklmaaW.PrintLast Go.Proofs.YthniclbmpeklmaaW.PrintMore
attribute [local go_sem] max2_int min2_int max_two min_two max_three min_three max_four min_four   -- for this text's walks alone
set_option linter.unusedVariables false
set_option linter.unusedSimpArgs false

/-! ### knellref14_End: function 56 -/
mutual
def knellref14_End.l0 : Nat → List (S50) → Int → Int → Option (Int)
  | 0, _, _, _ => none
  | k + 1, x0, x1, x5 => if x5 < (x0.length : Int) then (if 0 ≤ x5 then (if 0 ≤ x1 then (if x1 < (x0.length : Int) then (if ((rd_T50 x0 x5).f1) = ((rd_T50 x0 x1).f1) then (if ((rd_T50 x0 x5).f0) = 2 then (knellref14_End.j1 k x0 x1 x5 false ((rd_T50 x0 x5).f0) ((rd_T50 x0 x5).f1) ((rd_T50 x0 x5).f2) ((rd_T50 x0 x5).f3.f0) ((rd_T50 x0 x5).f3.f1) ((rd_T50 x0 x5).f4.f0) ((rd_T50 x0 x5).f4.f1) ((rd_T50 x0 x5).f5) ((rd_T50 x0 x5).f6) ((rd_T50 x0 x5).f7) ((rd_T50 x0 x5).f8) ((rd_T50 x0 x5).f9)) else (knellref14_End.j1 k x0 x1 x5 (((rd_T50 x0 x5).f0) != 5) ((rd_T50 x0 x5).f0) ((rd_T50 x0 x5).f1) ((rd_T50 x0 x5).f2) ((rd_T50 x0 x5).f3.f0) ((rd_T50 x0 x5).f3.f1) ((rd_T50 x0 x5).f4.f0) ((rd_T50 x0 x5).f4.f1) ((rd_T50 x0 x5).f5) ((rd_T50 x0 x5).f6) ((rd_T50 x0 x5).f7) ((rd_T50 x0 x5).f8) ((rd_T50 x0 x5).f9))) else (knellref14_End.j1 k x0 x1 x5 true ((rd_T50 x0 x5).f0) ((rd_T50 x0 x5).f1) ((rd_T50 x0 x5).f2) ((rd_T50 x0 x5).f3.f0) ((rd_T50 x0 x5).f3.f1) ((rd_T50 x0 x5).f4.f0) ((rd_T50 x0 x5).f4.f1) ((rd_T50 x0 x5).f5) ((rd_T50 x0 x5).f6) ((rd_T50 x0 x5).f7) ((rd_T50 x0 x5).f8) ((rd_T50 x0 x5).f9))) else (none)) else (none)) else (none)) else (some (-1))
def knellref14_End.j1 : Nat → List (S50) → Int → Int → Bool → Int → Int → Int → Int → Int → Int → Int → Int → Int → Int → Bool → Int → Option (Int)
  | 0, _, _, _, _, _, _, _, _, _, _, _, _, _, _, _, _ => none
  | k + 1, x0, x1, x5, x36, x163000, x163001, x163002, x163003, x163004, x163005, x163006, x163007, x163008, x163009, x163010, x163011 => if x36 = true then (knellref14_End.l0 k x0 x1 (wrap64 (x5 + 1))) else (if x163000 = 2 then (some (-1)) else (if 0 ≤ x1 then (if x1 < (x0.length : Int) then (if x163002 = ((rd_T50 x0 x1).f2) then (some x5) else (knellref14_End.l0 k x0 x1 (wrap64 (x5 + 1)))) else (none)) else (none)))
end
def knellref14_End.f (k : Nat) (l0 : List (S50)) (a1 : Int) : Option (Int) := knellref14_End.l0 k l0 a1 (wrap64 (a1 + 1))
theorem knellref14_End.mono_l : ∀ k, (∀ y0 y1 y2, LeO (knellref14_End.l0 k y0 y1 y2) (knellref14_End.l0 (k + 1) y0 y1 y2)) ∧ (∀ y0 y1 y2 y3 y4 y5 y6 y7 y8 y9 y10 y11 y12 y13 y14 y15, LeO (knellref14_End.j1 k y0 y1 y2 y3 y4 y5 y6 y7 y8 y9 y10 y11 y12 y13 y14 y15) (knellref14_End.j1 (k + 1) y0 y1 y2 y3 y4 y5 y6 y7 y8 y9 y10 y11 y12 y13 y14 y15))
  | 0 => ⟨fun _ _ _ r h => by simp [knellref14_End.l0] at h, fun _ _ _ _ _ _ _ _ _ _ _ _ _ _ _ _ r h => by simp [knellref14_End.j1] at h⟩
  | k + 1 => by
    obtain ⟨ih0, ih1⟩ := knellref14_End.mono_l k
    refine ⟨?_, ?_⟩
    · intro y0 y1 y2
      unfold knellref14_End.l0
      repeat' first
      | (with_reducible exact ih0 _ _ _)
      | (with_reducible exact ih1 _ _ _ _ _ _ _ _ _ _ _ _ _ _ _ _)
      | (with_reducible exact LeO.refl _)
      | (with_reducible exact LeO.none _)
      | (with_reducible refine LeO.ite ?_ ?_)
      | (with_reducible refine LeO.bind ?_ (fun _ => ?_))
      | exact ih0 _ _ _
      | exact ih1 _ _ _ _ _ _ _ _ _ _ _ _ _ _ _ _
      | exact LeO.none _
      | refine LeO.ite ?_ ?_
      | refine LeO.bind ?_ (fun _ => ?_)
    · intro y0 y1 y2 y3 y4 y5 y6 y7 y8 y9 y10 y11 y12 y13 y14 y15
      unfold knellref14_End.j1
      repeat' first
      | (with_reducible exact ih0 _ _ _)
      | (with_reducible exact ih1 _ _ _ _ _ _ _ _ _ _ _ _ _ _ _ _)
      | (with_reducible exact LeO.refl _)
      | (with_reducible exact LeO.none _)
      | (with_reducible refine LeO.ite ?_ ?_)
      | (with_reducible refine LeO.bind ?_ (fun _ => ?_))
      | exact ih0 _ _ _
      | exact ih1 _ _ _ _ _ _ _ _ _ _ _ _ _ _ _ _
      | exact LeO.none _
      | refine LeO.ite ?_ ?_
      | refine LeO.bind ?_ (fun _ => ?_)
theorem knellref14_End.mono : ∀ a0 a1 k, LeO (knellref14_End.f k a0 a1) (knellref14_End.f (k + 1) a0 a1) := by
  intro a0 a1 k
  obtain ⟨ih0, ih1⟩ := knellref14_End.mono_l k
  unfold knellref14_End.f
  repeat' first
      | (with_reducible exact ih0 _ _ _)
      | (with_reducible exact ih1 _ _ _ _ _ _ _ _ _ _ _ _ _ _ _ _)
      | (with_reducible exact LeO.refl _)
      | (with_reducible exact LeO.none _)
      | (with_reducible refine LeO.ite ?_ ?_)
      | (with_reducible refine LeO.bind ?_ (fun _ => ?_))
      | exact ih0 _ _ _
      | exact ih1 _ _ _ _ _ _ _ _ _ _ _ _ _ _ _ _
      | exact LeO.none _
      | refine LeO.ite ?_ ?_
      | refine LeO.bind ?_ (fun _ => ?_)
set_option maxHeartbeats 8000000 in
set_option maxRecDepth 100000 in
theorem knellref14_End.calls (k : Nat) (A0 : Option Addr) (c0 : Nat) (l0 : List (S50)) (a1 : Int) (r : Int) (w : World) (hr0 : Kd.C k50 w A0 l0.length l0) (hc0 : l0.length ≤ c0) (h : knellref14_End.f k l0 a1 = some r) :
    Calls Try.prog 56 #[.slice A0 l0.length c0, .int .i64 a1] w fun e w' => e = .returned (.int .i64 r) ∧ Below w.heap.size w w' := by
  have hu50 := Try.underlying50
  have HR0 := Aside0.mk hr0
  have HC0 := Aside0.mk hc0
  clear hr0 hc0
  have HB := Aside0.mk (Below.refl w.heap.size w)
  have H : (knellref14_End.l0 k l0 a1 (wrap64 (a1 + 1))) = some r := h
  clear h
  have H' := Aside0.mk H
  clear H
  go_enter Try.func56, Try.ntmps56
  go_wp2
  repeat (go_quiet (fail); try go_wp2)
  go_loopg [5] k (fun kq v5 w' => ∃ (x5_1 : Int), v5 = .int .i64 x5_1 ∧ Aside0 (knellref14_End.l0 kq l0 a1 x5_1 = some r) ∧ Aside0 (kq ≤ k) ∧ Aside0 (Below w.heap.size w w'))
  case atStart => exact ⟨(wrap64 (a1 + 1)), (by first | rfl | (simp; done) | (simp [*]; done)), H', ⟨Nat.le_refl _⟩, ⟨by repeat (first | (with_reducible first | exact HB.out | apply below_alloc | apply pw_below_drewN | apply below_drew1) | exact HB.out)⟩⟩
  case round =>
    clear H'
    (try clear p2)
    obtain ⟨x5_1, rfl, HA, HK1, HB⟩ := hrel
    cases gk with
    | zero => exact absurd HA.out (by simp [knellref14_End.l0])
    | succ k1 =>
      have H := HA.out
      clear HA
      simp only [knellref14_End.l0] at H
      by_cases c3 : x5_1 < (l0.length : Int)
      · rw [if_pos c3] at H
        have c3b0 : decide (x5_1 < (l0.length : Int)) = true := decide_eq_true c3
        clear c3
        by_cases c4 : 0 ≤ x5_1
        · rw [if_pos c4] at H
          have c4b0 : decide (0 ≤ x5_1) = true := decide_eq_true c4
          clear c4
          have HC5 := Aside0.mk H
          clear H
          have p161 : 0 ≤ (x5_1 : Int) := of_decide_eq_true (by first | (with_reducible assumption) | assumption)
          have q161 : x5_1 < (l0.length : Int) := of_decide_eq_true (by first | (with_reducible assumption) | assumption)
          obtain ⟨ad161, e161, hx161_0, hx161_1, hx161_2, hx161_3, hx161_4, hx161_5, hx161_6, hx161_7, hx161_8, hx161_9, hx161_10, hx161_11⟩ := at_T50 HR0.out x5_1 p161 q161
          cases e161
          replace hx161_0 := (HB.out.cell (World.block_lt_of_cell? w _ hx161_0)).trans hx161_0
          replace hx161_1 := (HB.out.cell (World.block_lt_of_cell? w _ hx161_1)).trans hx161_1
          replace hx161_2 := (HB.out.cell (World.block_lt_of_cell? w _ hx161_2)).trans hx161_2
          replace hx161_3 := (HB.out.cell (World.block_lt_of_cell? w _ hx161_3)).trans hx161_3
          replace hx161_4 := (HB.out.cell (World.block_lt_of_cell? w _ hx161_4)).trans hx161_4
          replace hx161_5 := (HB.out.cell (World.block_lt_of_cell? w _ hx161_5)).trans hx161_5
          replace hx161_6 := (HB.out.cell (World.block_lt_of_cell? w _ hx161_6)).trans hx161_6
          replace hx161_7 := (HB.out.cell (World.block_lt_of_cell? w _ hx161_7)).trans hx161_7
          replace hx161_8 := (HB.out.cell (World.block_lt_of_cell? w _ hx161_8)).trans hx161_8
          replace hx161_9 := (HB.out.cell (World.block_lt_of_cell? w _ hx161_9)).trans hx161_9
          replace hx161_10 := (HB.out.cell (World.block_lt_of_cell? w _ hx161_10)).trans hx161_10
          replace hx161_11 := (HB.out.cell (World.block_lt_of_cell? w _ hx161_11)).trans hx161_11
          replace p161 := eq_true p161
          replace q161 := eq_true q161
          go_upto_region 5 with (first | ((with_reducible refine gate_dst (N := 6) rfl ?_); refine box_event ?hg (N := 6) ?hd (cs := #[.int .i64 0, .int .i64 0, .int .i64 0, .int .i64 0, .int .i64 0, .int .i64 0, .int .i64 0, .int .i64 0, .int .i64 0, .int .i64 0, .bool false, .int .i64 0]) (t := 50) ?hr ?_; (case hd => rfl); (case hg => rfl); (case hr => first | (go_simp; done) | (go_simp; rfl)); intro gb162 hg w6 hbox hb; have n0_ := Aside0.mk (below_step (by repeat (first | (with_reducible first | exact HB.out | apply below_alloc | apply pw_below_drewN | apply below_drew1) | exact HB.out)) hb); have n1_ := Aside0.mk (hbox); have n2_ := Aside0.mk ((by rw [hg]; exact (below_size (by repeat (first | (with_reducible first | exact HB.out | apply below_alloc | apply pw_below_drewN | apply below_drew1) | exact HB.out))) : w.heap.size ≤ gb162)); have n3_ := Aside0.mk ((by rw [hg]; exact (below_size (by repeat (first | (with_reducible first | exact HB.out | apply below_alloc | apply pw_below_drewN | apply below_drew1) | exact HB.out))) : w.heap.size ≤ gb162)); clear HB; have HB := n0_; have BK162 := n1_; have GW162 := n2_; have GE162 := n3_; clear n0_ n1_ n2_ n3_; clear hb hbox hg; have hcz7_0 : w6.cell? ⟨gb162, 0, none⟩ = some (.int .i64 0) := (blk_cell BK162.out 0).trans rfl; have hcz7_1 : w6.cell? ⟨gb162, 1, none⟩ = some (.int .i64 0) := (blk_cell BK162.out 1).trans rfl; have hcz7_2 : w6.cell? ⟨gb162, 2, none⟩ = some (.int .i64 0) := (blk_cell BK162.out 2).trans rfl; have hcz7_3 : w6.cell? ⟨gb162, 3, none⟩ = some (.int .i64 0) := (blk_cell BK162.out 3).trans rfl; have hcz7_4 : w6.cell? ⟨gb162, 4, none⟩ = some (.int .i64 0) := (blk_cell BK162.out 4).trans rfl; have hcz7_5 : w6.cell? ⟨gb162, 5, none⟩ = some (.int .i64 0) := (blk_cell BK162.out 5).trans rfl; have hcz7_6 : w6.cell? ⟨gb162, 6, none⟩ = some (.int .i64 0) := (blk_cell BK162.out 6).trans rfl; have hcz7_7 : w6.cell? ⟨gb162, 7, none⟩ = some (.int .i64 0) := (blk_cell BK162.out 7).trans rfl; have hcz7_8 : w6.cell? ⟨gb162, 8, none⟩ = some (.int .i64 0) := (blk_cell BK162.out 8).trans rfl; have hcz7_9 : w6.cell? ⟨gb162, 9, none⟩ = some (.int .i64 0) := (blk_cell BK162.out 9).trans rfl; have hcz7_10 : w6.cell? ⟨gb162, 10, none⟩ = some (.bool false) := (blk_cell BK162.out 10).trans rfl; have hcz7_11 : w6.cell? ⟨gb162, 11, none⟩ = some (.int .i64 0) := (blk_cell BK162.out 11).trans rfl; have hfz7_0 := blk_frozen BK162.out 0; have hfz7_1 := blk_frozen BK162.out 1; have hfz7_2 := blk_frozen BK162.out 2; have hfz7_3 := blk_frozen BK162.out 3; have hfz7_4 := blk_frozen BK162.out 4; have hfz7_5 := blk_frozen BK162.out 5; have hfz7_6 := blk_frozen BK162.out 6; have hfz7_7 := blk_frozen BK162.out 7; have hfz7_8 := blk_frozen BK162.out 8; have hfz7_9 := blk_frozen BK162.out 9; have hfz7_10 := blk_frozen BK162.out 10; have hfz7_11 := blk_frozen BK162.out 11))
          repeat (go_quiet (first | ((with_reducible refine gate_dst (N := 6) rfl ?_); refine box_event ?hg (N := 6) ?hd (cs := #[.int .i64 0, .int .i64 0, .int .i64 0, .int .i64 0, .int .i64 0, .int .i64 0, .int .i64 0, .int .i64 0, .int .i64 0, .int .i64 0, .bool false, .int .i64 0]) (t := 50) ?hr ?_; (case hd => rfl); (case hg => rfl); (case hr => first | (go_simp; done) | (go_simp; rfl)); intro gb162 hg w6 hbox hb; have n0_ := Aside0.mk (below_step (by repeat (first | (with_reducible first | exact HB.out | apply below_alloc | apply pw_below_drewN | apply below_drew1) | exact HB.out)) hb); have n1_ := Aside0.mk (hbox); have n2_ := Aside0.mk ((by rw [hg]; exact (below_size (by repeat (first | (with_reducible first | exact HB.out | apply below_alloc | apply pw_below_drewN | apply below_drew1) | exact HB.out))) : w.heap.size ≤ gb162)); have n3_ := Aside0.mk ((by rw [hg]; exact (below_size (by repeat (first | (with_reducible first | exact HB.out | apply below_alloc | apply pw_below_drewN | apply below_drew1) | exact HB.out))) : w.heap.size ≤ gb162)); clear HB; have HB := n0_; have BK162 := n1_; have GW162 := n2_; have GE162 := n3_; clear n0_ n1_ n2_ n3_; clear hb hbox hg; have hcz7_0 : w6.cell? ⟨gb162, 0, none⟩ = some (.int .i64 0) := (blk_cell BK162.out 0).trans rfl; have hcz7_1 : w6.cell? ⟨gb162, 1, none⟩ = some (.int .i64 0) := (blk_cell BK162.out 1).trans rfl; have hcz7_2 : w6.cell? ⟨gb162, 2, none⟩ = some (.int .i64 0) := (blk_cell BK162.out 2).trans rfl; have hcz7_3 : w6.cell? ⟨gb162, 3, none⟩ = some (.int .i64 0) := (blk_cell BK162.out 3).trans rfl; have hcz7_4 : w6.cell? ⟨gb162, 4, none⟩ = some (.int .i64 0) := (blk_cell BK162.out 4).trans rfl; have hcz7_5 : w6.cell? ⟨gb162, 5, none⟩ = some (.int .i64 0) := (blk_cell BK162.out 5).trans rfl; have hcz7_6 : w6.cell? ⟨gb162, 6, none⟩ = some (.int .i64 0) := (blk_cell BK162.out 6).trans rfl; have hcz7_7 : w6.cell? ⟨gb162, 7, none⟩ = some (.int .i64 0) := (blk_cell BK162.out 7).trans rfl; have hcz7_8 : w6.cell? ⟨gb162, 8, none⟩ = some (.int .i64 0) := (blk_cell BK162.out 8).trans rfl; have hcz7_9 : w6.cell? ⟨gb162, 9, none⟩ = some (.int .i64 0) := (blk_cell BK162.out 9).trans rfl; have hcz7_10 : w6.cell? ⟨gb162, 10, none⟩ = some (.bool false) := (blk_cell BK162.out 10).trans rfl; have hcz7_11 : w6.cell? ⟨gb162, 11, none⟩ = some (.int .i64 0) := (blk_cell BK162.out 11).trans rfl; have hfz7_0 := blk_frozen BK162.out 0; have hfz7_1 := blk_frozen BK162.out 1; have hfz7_2 := blk_frozen BK162.out 2; have hfz7_3 := blk_frozen BK162.out 3; have hfz7_4 := blk_frozen BK162.out 4; have hfz7_5 := blk_frozen BK162.out 5; have hfz7_6 := blk_frozen BK162.out 6; have hfz7_7 := blk_frozen BK162.out 7; have hfz7_8 := blk_frozen BK162.out 8; have hfz7_9 := blk_frozen BK162.out 9; have hfz7_10 := blk_frozen BK162.out 10; have hfz7_11 := blk_frozen BK162.out 11)); go_upto_region 5 with (first | ((with_reducible refine gate_dst (N := 6) rfl ?_); refine box_event ?hg (N := 6) ?hd (cs := #[.int .i64 0, .int .i64 0, .int .i64 0, .int .i64 0, .int .i64 0, .int .i64 0, .int .i64 0, .int .i64 0, .int .i64 0, .int .i64 0, .bool false, .int .i64 0]) (t := 50) ?hr ?_; (case hd => rfl); (case hg => rfl); (case hr => first | (go_simp; done) | (go_simp; rfl)); intro gb162 hg w6 hbox hb; have n0_ := Aside0.mk (below_step (by repeat (first | (with_reducible first | exact HB.out | apply below_alloc | apply pw_below_drewN | apply below_drew1) | exact HB.out)) hb); have n1_ := Aside0.mk (hbox); have n2_ := Aside0.mk ((by rw [hg]; exact (below_size (by repeat (first | (with_reducible first | exact HB.out | apply below_alloc | apply pw_below_drewN | apply below_drew1) | exact HB.out))) : w.heap.size ≤ gb162)); have n3_ := Aside0.mk ((by rw [hg]; exact (below_size (by repeat (first | (with_reducible first | exact HB.out | apply below_alloc | apply pw_below_drewN | apply below_drew1) | exact HB.out))) : w.heap.size ≤ gb162)); clear HB; have HB := n0_; have BK162 := n1_; have GW162 := n2_; have GE162 := n3_; clear n0_ n1_ n2_ n3_; clear hb hbox hg; have hcz7_0 : w6.cell? ⟨gb162, 0, none⟩ = some (.int .i64 0) := (blk_cell BK162.out 0).trans rfl; have hcz7_1 : w6.cell? ⟨gb162, 1, none⟩ = some (.int .i64 0) := (blk_cell BK162.out 1).trans rfl; have hcz7_2 : w6.cell? ⟨gb162, 2, none⟩ = some (.int .i64 0) := (blk_cell BK162.out 2).trans rfl; have hcz7_3 : w6.cell? ⟨gb162, 3, none⟩ = some (.int .i64 0) := (blk_cell BK162.out 3).trans rfl; have hcz7_4 : w6.cell? ⟨gb162, 4, none⟩ = some (.int .i64 0) := (blk_cell BK162.out 4).trans rfl; have hcz7_5 : w6.cell? ⟨gb162, 5, none⟩ = some (.int .i64 0) := (blk_cell BK162.out 5).trans rfl; have hcz7_6 : w6.cell? ⟨gb162, 6, none⟩ = some (.int .i64 0) := (blk_cell BK162.out 6).trans rfl; have hcz7_7 : w6.cell? ⟨gb162, 7, none⟩ = some (.int .i64 0) := (blk_cell BK162.out 7).trans rfl; have hcz7_8 : w6.cell? ⟨gb162, 8, none⟩ = some (.int .i64 0) := (blk_cell BK162.out 8).trans rfl; have hcz7_9 : w6.cell? ⟨gb162, 9, none⟩ = some (.int .i64 0) := (blk_cell BK162.out 9).trans rfl; have hcz7_10 : w6.cell? ⟨gb162, 10, none⟩ = some (.bool false) := (blk_cell BK162.out 10).trans rfl; have hcz7_11 : w6.cell? ⟨gb162, 11, none⟩ = some (.int .i64 0) := (blk_cell BK162.out 11).trans rfl; have hfz7_0 := blk_frozen BK162.out 0; have hfz7_1 := blk_frozen BK162.out 1; have hfz7_2 := blk_frozen BK162.out 2; have hfz7_3 := blk_frozen BK162.out 3; have hfz7_4 := blk_frozen BK162.out 4; have hfz7_5 := blk_frozen BK162.out 5; have hfz7_6 := blk_frozen BK162.out 6; have hfz7_7 := blk_frozen BK162.out 7; have hfz7_8 := blk_frozen BK162.out 8; have hfz7_9 := blk_frozen BK162.out 9; have hfz7_10 := blk_frozen BK162.out 10; have hfz7_11 := blk_frozen BK162.out 11)))
          (try simp only [Act.put, List.setIfInBounds_toArray, List.set_cons_zero, List.set_cons_succ])
          go_cut [36] (fun v36 wc => ∃ (kq : Nat) (x36_4 : Bool), v36 = .bool x36_4 ∧ Aside0 (knellref14_End.j1 kq l0 a1 x5_1 x36_4 ((rd_T50 l0 x5_1).f0) ((rd_T50 l0 x5_1).f1) ((rd_T50 l0 x5_1).f2) ((rd_T50 l0 x5_1).f3.f0) ((rd_T50 l0 x5_1).f3.f1) ((rd_T50 l0 x5_1).f4.f0) ((rd_T50 l0 x5_1).f4.f1) ((rd_T50 l0 x5_1).f5) ((rd_T50 l0 x5_1).f6) ((rd_T50 l0 x5_1).f7) ((rd_T50 l0 x5_1).f8) ((rd_T50 l0 x5_1).f9) = some r) ∧ Aside0 (kq ≤ k1) ∧ Aside0 (wc.heap[gb162]? = some (.cells #[.int .i64 ((rd_T50 l0 x5_1).f0), .int .i64 ((rd_T50 l0 x5_1).f1), .int .i64 ((rd_T50 l0 x5_1).f2), .int .i64 ((rd_T50 l0 x5_1).f3.f0), .int .i64 ((rd_T50 l0 x5_1).f3.f1), .int .i64 ((rd_T50 l0 x5_1).f4.f0), .int .i64 ((rd_T50 l0 x5_1).f4.f1), .int .i64 ((rd_T50 l0 x5_1).f5), .int .i64 ((rd_T50 l0 x5_1).f6), .int .i64 ((rd_T50 l0 x5_1).f7), .bool ((rd_T50 l0 x5_1).f8), .int .i64 ((rd_T50 l0 x5_1).f9)] 50 (0, 0))) ∧ Aside0 (Below w.heap.size w wc))
          case first =>
            have H := HC5.out
            clear HC5
            by_cases c8 : 0 ≤ a1
            · rw [if_pos c8] at H
              have c8b0 : decide (0 ≤ a1) = true := decide_eq_true c8
              clear c8
              (first | rw [c8b0] | (simp only [i64_w, i32_w]; rw [c8b0]) | skip)
              by_cases c9 : a1 < (l0.length : Int)
              · rw [if_pos c9] at H
                have c9b0 : decide (a1 < (l0.length : Int)) = true := decide_eq_true c9
                clear c9
                by_cases c10 : ((rd_T50 l0 x5_1).f1) = ((rd_T50 l0 a1).f1)
                · rw [if_pos c10] at H
                  have c10b0 : (((rd_T50 l0 x5_1).f1) == ((rd_T50 l0 a1).f1)) = true := beq_iff_eq.mpr c10
                  have c10b1 : (((rd_T50 l0 x5_1).f1) != ((rd_T50 l0 a1).f1)) = false := bne_eq_false_iff_eq.mpr c10
                  clear c10
                  by_cases c11 : ((rd_T50 l0 x5_1).f0) = 2
                  · rw [if_pos c11] at H
                    have c11b0 : (((rd_T50 l0 x5_1).f0) == 2) = true := beq_iff_eq.mpr c11
                    have c11b1 : (((rd_T50 l0 x5_1).f0) != 2) = false := bne_eq_false_iff_eq.mpr c11
                    clear c11
                    have H' := Aside0.mk H
                    clear H
                    have p163 : 0 ≤ (a1 : Int) := of_decide_eq_true (by first | (with_reducible assumption) | assumption)
                    have q163 : a1 < (l0.length : Int) := of_decide_eq_true (by first | (with_reducible assumption) | assumption)
                    obtain ⟨ad163, e163, hx163_0, hx163_1, hx163_2, hx163_3, hx163_4, hx163_5, hx163_6, hx163_7, hx163_8, hx163_9, hx163_10, hx163_11⟩ := at_T50 HR0.out a1 p163 q163
                    obtain rfl : ad161 = ad163 := (by injection e163)
                    have hn163_1 : ad161.block ≠ gb162 := Nat.ne_of_lt (Nat.lt_of_lt_of_le (by have := World.block_lt_of_cell? _ _ hx163_0; first | rwa [add_block] at this | exact this) GW162.out)
                    replace hx163_1 := (HB.out.cell (World.block_lt_of_cell? w _ hx163_1)).trans hx163_1
                    have hy163_1 := fun (n_ : Nat) => (show (w6.drewN n_).cell? _ = some _ from hx163_1)
                    replace hx163_1 := (cell_far (p := ⟨gb162, 0, none⟩) (by first | (rw [add_block]; exact hn163_1) | (show (Addr.add _ _).block ≠ _; rw [add_block]; exact hn163_1) | exact hn163_1) (.int .i64 ((rd_T50 l0 x5_1).f0))).trans hx163_1
                    replace hy163_1 := fun (n_ : Nat) => (cell_far (p := ⟨gb162, 0, none⟩) (by first | (rw [add_block]; exact hn163_1) | (show (Addr.add _ _).block ≠ _; rw [add_block]; exact hn163_1) | exact hn163_1) (.int .i64 ((rd_T50 l0 x5_1).f0))).trans (hy163_1 n_)
                    replace hx163_1 := (cell_far (p := ⟨gb162, 1, none⟩) (by first | (rw [add_block]; exact hn163_1) | (show (Addr.add _ _).block ≠ _; rw [add_block]; exact hn163_1) | exact hn163_1) (.int .i64 ((rd_T50 l0 x5_1).f1))).trans hx163_1
                    replace hy163_1 := fun (n_ : Nat) => (cell_far (p := ⟨gb162, 1, none⟩) (by first | (rw [add_block]; exact hn163_1) | (show (Addr.add _ _).block ≠ _; rw [add_block]; exact hn163_1) | exact hn163_1) (.int .i64 ((rd_T50 l0 x5_1).f1))).trans (hy163_1 n_)
                    replace hx163_1 := (cell_far (p := ⟨gb162, 2, none⟩) (by first | (rw [add_block]; exact hn163_1) | (show (Addr.add _ _).block ≠ _; rw [add_block]; exact hn163_1) | exact hn163_1) (.int .i64 ((rd_T50 l0 x5_1).f2))).trans hx163_1
                    replace hy163_1 := fun (n_ : Nat) => (cell_far (p := ⟨gb162, 2, none⟩) (by first | (rw [add_block]; exact hn163_1) | (show (Addr.add _ _).block ≠ _; rw [add_block]; exact hn163_1) | exact hn163_1) (.int .i64 ((rd_T50 l0 x5_1).f2))).trans (hy163_1 n_)
                    replace hx163_1 := (cell_far (p := ⟨gb162, 3, none⟩) (by first | (rw [add_block]; exact hn163_1) | (show (Addr.add _ _).block ≠ _; rw [add_block]; exact hn163_1) | exact hn163_1) (.int .i64 ((rd_T50 l0 x5_1).f3.f0))).trans hx163_1
                    replace hy163_1 := fun (n_ : Nat) => (cell_far (p := ⟨gb162, 3, none⟩) (by first | (rw [add_block]; exact hn163_1) | (show (Addr.add _ _).block ≠ _; rw [add_block]; exact hn163_1) | exact hn163_1) (.int .i64 ((rd_T50 l0 x5_1).f3.f0))).trans (hy163_1 n_)
                    replace hx163_1 := (cell_far (p := ⟨gb162, 4, none⟩) (by first | (rw [add_block]; exact hn163_1) | (show (Addr.add _ _).block ≠ _; rw [add_block]; exact hn163_1) | exact hn163_1) (.int .i64 ((rd_T50 l0 x5_1).f3.f1))).trans hx163_1
                    replace hy163_1 := fun (n_ : Nat) => (cell_far (p := ⟨gb162, 4, none⟩) (by first | (rw [add_block]; exact hn163_1) | (show (Addr.add _ _).block ≠ _; rw [add_block]; exact hn163_1) | exact hn163_1) (.int .i64 ((rd_T50 l0 x5_1).f3.f1))).trans (hy163_1 n_)
                    replace hx163_1 := (cell_far (p := ⟨gb162, 5, none⟩) (by first | (rw [add_block]; exact hn163_1) | (show (Addr.add _ _).block ≠ _; rw [add_block]; exact hn163_1) | exact hn163_1) (.int .i64 ((rd_T50 l0 x5_1).f4.f0))).trans hx163_1
                    replace hy163_1 := fun (n_ : Nat) => (cell_far (p := ⟨gb162, 5, none⟩) (by first | (rw [add_block]; exact hn163_1) | (show (Addr.add _ _).block ≠ _; rw [add_block]; exact hn163_1) | exact hn163_1) (.int .i64 ((rd_T50 l0 x5_1).f4.f0))).trans (hy163_1 n_)
                    replace hx163_1 := (cell_far (p := ⟨gb162, 6, none⟩) (by first | (rw [add_block]; exact hn163_1) | (show (Addr.add _ _).block ≠ _; rw [add_block]; exact hn163_1) | exact hn163_1) (.int .i64 ((rd_T50 l0 x5_1).f4.f1))).trans hx163_1
                    replace hy163_1 := fun (n_ : Nat) => (cell_far (p := ⟨gb162, 6, none⟩) (by first | (rw [add_block]; exact hn163_1) | (show (Addr.add _ _).block ≠ _; rw [add_block]; exact hn163_1) | exact hn163_1) (.int .i64 ((rd_T50 l0 x5_1).f4.f1))).trans (hy163_1 n_)
                    replace hx163_1 := (cell_far (p := ⟨gb162, 7, none⟩) (by first | (rw [add_block]; exact hn163_1) | (show (Addr.add _ _).block ≠ _; rw [add_block]; exact hn163_1) | exact hn163_1) (.int .i64 ((rd_T50 l0 x5_1).f5))).trans hx163_1
                    replace hy163_1 := fun (n_ : Nat) => (cell_far (p := ⟨gb162, 7, none⟩) (by first | (rw [add_block]; exact hn163_1) | (show (Addr.add _ _).block ≠ _; rw [add_block]; exact hn163_1) | exact hn163_1) (.int .i64 ((rd_T50 l0 x5_1).f5))).trans (hy163_1 n_)
                    replace hx163_1 := (cell_far (p := ⟨gb162, 8, none⟩) (by first | (rw [add_block]; exact hn163_1) | (show (Addr.add _ _).block ≠ _; rw [add_block]; exact hn163_1) | exact hn163_1) (.int .i64 ((rd_T50 l0 x5_1).f6))).trans hx163_1
                    replace hy163_1 := fun (n_ : Nat) => (cell_far (p := ⟨gb162, 8, none⟩) (by first | (rw [add_block]; exact hn163_1) | (show (Addr.add _ _).block ≠ _; rw [add_block]; exact hn163_1) | exact hn163_1) (.int .i64 ((rd_T50 l0 x5_1).f6))).trans (hy163_1 n_)
                    replace hx163_1 := (cell_far (p := ⟨gb162, 9, none⟩) (by first | (rw [add_block]; exact hn163_1) | (show (Addr.add _ _).block ≠ _; rw [add_block]; exact hn163_1) | exact hn163_1) (.int .i64 ((rd_T50 l0 x5_1).f7))).trans hx163_1
                    replace hy163_1 := fun (n_ : Nat) => (cell_far (p := ⟨gb162, 9, none⟩) (by first | (rw [add_block]; exact hn163_1) | (show (Addr.add _ _).block ≠ _; rw [add_block]; exact hn163_1) | exact hn163_1) (.int .i64 ((rd_T50 l0 x5_1).f7))).trans (hy163_1 n_)
                    replace hx163_1 := (cell_far (p := ⟨gb162, 10, none⟩) (by first | (rw [add_block]; exact hn163_1) | (show (Addr.add _ _).block ≠ _; rw [add_block]; exact hn163_1) | exact hn163_1) (.bool ((rd_T50 l0 x5_1).f8))).trans hx163_1
                    replace hy163_1 := fun (n_ : Nat) => (cell_far (p := ⟨gb162, 10, none⟩) (by first | (rw [add_block]; exact hn163_1) | (show (Addr.add _ _).block ≠ _; rw [add_block]; exact hn163_1) | exact hn163_1) (.bool ((rd_T50 l0 x5_1).f8))).trans (hy163_1 n_)
                    replace hx163_1 := (cell_far (p := ⟨gb162, 11, none⟩) (by first | (rw [add_block]; exact hn163_1) | (show (Addr.add _ _).block ≠ _; rw [add_block]; exact hn163_1) | exact hn163_1) (.int .i64 ((rd_T50 l0 x5_1).f9))).trans hx163_1
                    replace hy163_1 := fun (n_ : Nat) => (cell_far (p := ⟨gb162, 11, none⟩) (by first | (rw [add_block]; exact hn163_1) | (show (Addr.add _ _).block ≠ _; rw [add_block]; exact hn163_1) | exact hn163_1) (.int .i64 ((rd_T50 l0 x5_1).f9))).trans (hy163_1 n_)
                    replace p163 := eq_true p163
                    replace q163 := eq_true q163
                    go_wp2
                    repeat (go_quiet (fail); try go_wp2)
                    go_meet
                    case rel => exact ⟨_, (false), (by first | rfl | (simp; done) | (simp [*]; done)), H', ⟨by have := HK1.out; first | omega | exact Nat.le_refl _⟩, ⟨by (with_reducible repeat (first | refine blk_drewN ?_ _ | refine blk_drew ?_ | refine blk_alloc ?_ _)); refine blk_put (cs := #[.int .i64 ((rd_T50 l0 x5_1).f0), .int .i64 ((rd_T50 l0 x5_1).f1), .int .i64 ((rd_T50 l0 x5_1).f2), .int .i64 ((rd_T50 l0 x5_1).f3.f0), .int .i64 ((rd_T50 l0 x5_1).f3.f1), .int .i64 ((rd_T50 l0 x5_1).f4.f0), .int .i64 ((rd_T50 l0 x5_1).f4.f1), .int .i64 ((rd_T50 l0 x5_1).f5), .int .i64 ((rd_T50 l0 x5_1).f6), .int .i64 ((rd_T50 l0 x5_1).f7), .bool ((rd_T50 l0 x5_1).f8), .int .i64 0]) ?_ 11 _ rfl; (with_reducible repeat (first | refine blk_drewN ?_ _ | refine blk_drew ?_ | refine blk_alloc ?_ _)); refine blk_put (cs := #[.int .i64 ((rd_T50 l0 x5_1).f0), .int .i64 ((rd_T50 l0 x5_1).f1), .int .i64 ((rd_T50 l0 x5_1).f2), .int .i64 ((rd_T50 l0 x5_1).f3.f0), .int .i64 ((rd_T50 l0 x5_1).f3.f1), .int .i64 ((rd_T50 l0 x5_1).f4.f0), .int .i64 ((rd_T50 l0 x5_1).f4.f1), .int .i64 ((rd_T50 l0 x5_1).f5), .int .i64 ((rd_T50 l0 x5_1).f6), .int .i64 ((rd_T50 l0 x5_1).f7), .bool false, .int .i64 0]) ?_ 10 _ rfl; (with_reducible repeat (first | refine blk_drewN ?_ _ | refine blk_drew ?_ | refine blk_alloc ?_ _)); refine blk_put (cs := #[.int .i64 ((rd_T50 l0 x5_1).f0), .int .i64 ((rd_T50 l0 x5_1).f1), .int .i64 ((rd_T50 l0 x5_1).f2), .int .i64 ((rd_T50 l0 x5_1).f3.f0), .int .i64 ((rd_T50 l0 x5_1).f3.f1), .int .i64 ((rd_T50 l0 x5_1).f4.f0), .int .i64 ((rd_T50 l0 x5_1).f4.f1), .int .i64 ((rd_T50 l0 x5_1).f5), .int .i64 ((rd_T50 l0 x5_1).f6), .int .i64 0, .bool false, .int .i64 0]) ?_ 9 _ rfl; (with_reducible repeat (first | refine blk_drewN ?_ _ | refine blk_drew ?_ | refine blk_alloc ?_ _)); refine blk_put (cs := #[.int .i64 ((rd_T50 l0 x5_1).f0), .int .i64 ((rd_T50 l0 x5_1).f1), .int .i64 ((rd_T50 l0 x5_1).f2), .int .i64 ((rd_T50 l0 x5_1).f3.f0), .int .i64 ((rd_T50 l0 x5_1).f3.f1), .int .i64 ((rd_T50 l0 x5_1).f4.f0), .int .i64 ((rd_T50 l0 x5_1).f4.f1), .int .i64 ((rd_T50 l0 x5_1).f5), .int .i64 0, .int .i64 0, .bool false, .int .i64 0]) ?_ 8 _ rfl; (with_reducible repeat (first | refine blk_drewN ?_ _ | refine blk_drew ?_ | refine blk_alloc ?_ _)); refine blk_put (cs := #[.int .i64 ((rd_T50 l0 x5_1).f0), .int .i64 ((rd_T50 l0 x5_1).f1), .int .i64 ((rd_T50 l0 x5_1).f2), .int .i64 ((rd_T50 l0 x5_1).f3.f0), .int .i64 ((rd_T50 l0 x5_1).f3.f1), .int .i64 ((rd_T50 l0 x5_1).f4.f0), .int .i64 ((rd_T50 l0 x5_1).f4.f1), .int .i64 0, .int .i64 0, .int .i64 0, .bool false, .int .i64 0]) ?_ 7 _ rfl; (with_reducible repeat (first | refine blk_drewN ?_ _ | refine blk_drew ?_ | refine blk_alloc ?_ _)); refine blk_put (cs := #[.int .i64 ((rd_T50 l0 x5_1).f0), .int .i64 ((rd_T50 l0 x5_1).f1), .int .i64 ((rd_T50 l0 x5_1).f2), .int .i64 ((rd_T50 l0 x5_1).f3.f0), .int .i64 ((rd_T50 l0 x5_1).f3.f1), .int .i64 ((rd_T50 l0 x5_1).f4.f0), .int .i64 0, .int .i64 0, .int .i64 0, .int .i64 0, .bool false, .int .i64 0]) ?_ 6 _ rfl; (with_reducible repeat (first | refine blk_drewN ?_ _ | refine blk_drew ?_ | refine blk_alloc ?_ _)); refine blk_put (cs := #[.int .i64 ((rd_T50 l0 x5_1).f0), .int .i64 ((rd_T50 l0 x5_1).f1), .int .i64 ((rd_T50 l0 x5_1).f2), .int .i64 ((rd_T50 l0 x5_1).f3.f0), .int .i64 ((rd_T50 l0 x5_1).f3.f1), .int .i64 0, .int .i64 0, .int .i64 0, .int .i64 0, .int .i64 0, .bool false, .int .i64 0]) ?_ 5 _ rfl; (with_reducible repeat (first | refine blk_drewN ?_ _ | refine blk_drew ?_ | refine blk_alloc ?_ _)); refine blk_put (cs := #[.int .i64 ((rd_T50 l0 x5_1).f0), .int .i64 ((rd_T50 l0 x5_1).f1), .int .i64 ((rd_T50 l0 x5_1).f2), .int .i64 ((rd_T50 l0 x5_1).f3.f0), .int .i64 0, .int .i64 0, .int .i64 0, .int .i64 0, .int .i64 0, .int .i64 0, .bool false, .int .i64 0]) ?_ 4 _ rfl; (with_reducible repeat (first | refine blk_drewN ?_ _ | refine blk_drew ?_ | refine blk_alloc ?_ _)); refine blk_put (cs := #[.int .i64 ((rd_T50 l0 x5_1).f0), .int .i64 ((rd_T50 l0 x5_1).f1), .int .i64 ((rd_T50 l0 x5_1).f2), .int .i64 0, .int .i64 0, .int .i64 0, .int .i64 0, .int .i64 0, .int .i64 0, .int .i64 0, .bool false, .int .i64 0]) ?_ 3 _ rfl; (with_reducible repeat (first | refine blk_drewN ?_ _ | refine blk_drew ?_ | refine blk_alloc ?_ _)); refine blk_put (cs := #[.int .i64 ((rd_T50 l0 x5_1).f0), .int .i64 ((rd_T50 l0 x5_1).f1), .int .i64 0, .int .i64 0, .int .i64 0, .int .i64 0, .int .i64 0, .int .i64 0, .int .i64 0, .int .i64 0, .bool false, .int .i64 0]) ?_ 2 _ rfl; (with_reducible repeat (first | refine blk_drewN ?_ _ | refine blk_drew ?_ | refine blk_alloc ?_ _)); refine blk_put (cs := #[.int .i64 ((rd_T50 l0 x5_1).f0), .int .i64 0, .int .i64 0, .int .i64 0, .int .i64 0, .int .i64 0, .int .i64 0, .int .i64 0, .int .i64 0, .int .i64 0, .bool false, .int .i64 0]) ?_ 1 _ rfl; (with_reducible repeat (first | refine blk_drewN ?_ _ | refine blk_drew ?_ | refine blk_alloc ?_ _)); refine blk_put (cs := #[.int .i64 0, .int .i64 0, .int .i64 0, .int .i64 0, .int .i64 0, .int .i64 0, .int .i64 0, .int .i64 0, .int .i64 0, .int .i64 0, .bool false, .int .i64 0]) ?_ 0 _ rfl; (with_reducible repeat (first | refine blk_drewN ?_ _ | refine blk_drew ?_ | refine blk_alloc ?_ _)); exact BK162.out⟩, ⟨by repeat (first | (with_reducible first | exact HB.out | apply below_alloc | apply pw_below_drewN | apply below_drew1 | refine below_set ?_ GE162.out) | exact HB.out)⟩⟩
                  · rw [if_neg c11] at H
                    have c11b0 : (((rd_T50 l0 x5_1).f0) == 2) = false := beq_eq_false_iff_ne.mpr c11
                    have c11b1 : (((rd_T50 l0 x5_1).f0) != 2) = true := bne_iff_ne.mpr c11
                    have H' := Aside0.mk H
                    clear H
                    have p163 : 0 ≤ (a1 : Int) := of_decide_eq_true (by first | (with_reducible assumption) | assumption)
                    have q163 : a1 < (l0.length : Int) := of_decide_eq_true (by first | (with_reducible assumption) | assumption)
                    obtain ⟨ad163, e163, hx163_0, hx163_1, hx163_2, hx163_3, hx163_4, hx163_5, hx163_6, hx163_7, hx163_8, hx163_9, hx163_10, hx163_11⟩ := at_T50 HR0.out a1 p163 q163
                    obtain rfl : ad161 = ad163 := (by injection e163)
                    have hn163_1 : ad161.block ≠ gb162 := Nat.ne_of_lt (Nat.lt_of_lt_of_le (by have := World.block_lt_of_cell? _ _ hx163_0; first | rwa [add_block] at this | exact this) GW162.out)
                    replace hx163_1 := (HB.out.cell (World.block_lt_of_cell? w _ hx163_1)).trans hx163_1
                    have hy163_1 := fun (n_ : Nat) => (show (w6.drewN n_).cell? _ = some _ from hx163_1)
                    replace hx163_1 := (cell_far (p := ⟨gb162, 0, none⟩) (by first | (rw [add_block]; exact hn163_1) | (show (Addr.add _ _).block ≠ _; rw [add_block]; exact hn163_1) | exact hn163_1) (.int .i64 ((rd_T50 l0 x5_1).f0))).trans hx163_1
                    replace hy163_1 := fun (n_ : Nat) => (cell_far (p := ⟨gb162, 0, none⟩) (by first | (rw [add_block]; exact hn163_1) | (show (Addr.add _ _).block ≠ _; rw [add_block]; exact hn163_1) | exact hn163_1) (.int .i64 ((rd_T50 l0 x5_1).f0))).trans (hy163_1 n_)
                    replace hx163_1 := (cell_far (p := ⟨gb162, 1, none⟩) (by first | (rw [add_block]; exact hn163_1) | (show (Addr.add _ _).block ≠ _; rw [add_block]; exact hn163_1) | exact hn163_1) (.int .i64 ((rd_T50 l0 x5_1).f1))).trans hx163_1
                    replace hy163_1 := fun (n_ : Nat) => (cell_far (p := ⟨gb162, 1, none⟩) (by first | (rw [add_block]; exact hn163_1) | (show (Addr.add _ _).block ≠ _; rw [add_block]; exact hn163_1) | exact hn163_1) (.int .i64 ((rd_T50 l0 x5_1).f1))).trans (hy163_1 n_)
                    replace hx163_1 := (cell_far (p := ⟨gb162, 2, none⟩) (by first | (rw [add_block]; exact hn163_1) | (show (Addr.add _ _).block ≠ _; rw [add_block]; exact hn163_1) | exact hn163_1) (.int .i64 ((rd_T50 l0 x5_1).f2))).trans hx163_1
                    replace hy163_1 := fun (n_ : Nat) => (cell_far (p := ⟨gb162, 2, none⟩) (by first | (rw [add_block]; exact hn163_1) | (show (Addr.add _ _).block ≠ _; rw [add_block]; exact hn163_1) | exact hn163_1) (.int .i64 ((rd_T50 l0 x5_1).f2))).trans (hy163_1 n_)
                    replace hx163_1 := (cell_far (p := ⟨gb162, 3, none⟩) (by first | (rw [add_block]; exact hn163_1) | (show (Addr.add _ _).block ≠ _; rw [add_block]; exact hn163_1) | exact hn163_1) (.int .i64 ((rd_T50 l0 x5_1).f3.f0))).trans hx163_1
                    replace hy163_1 := fun (n_ : Nat) => (cell_far (p := ⟨gb162, 3, none⟩) (by first | (rw [add_block]; exact hn163_1) | (show (Addr.add _ _).block ≠ _; rw [add_block]; exact hn163_1) | exact hn163_1) (.int .i64 ((rd_T50 l0 x5_1).f3.f0))).trans (hy163_1 n_)
                    replace hx163_1 := (cell_far (p := ⟨gb162, 4, none⟩) (by first | (rw [add_block]; exact hn163_1) | (show (Addr.add _ _).block ≠ _; rw [add_block]; exact hn163_1) | exact hn163_1) (.int .i64 ((rd_T50 l0 x5_1).f3.f1))).trans hx163_1
                    replace hy163_1 := fun (n_ : Nat) => (cell_far (p := ⟨gb162, 4, none⟩) (by first | (rw [add_block]; exact hn163_1) | (show (Addr.add _ _).block ≠ _; rw [add_block]; exact hn163_1) | exact hn163_1) (.int .i64 ((rd_T50 l0 x5_1).f3.f1))).trans (hy163_1 n_)
                    replace hx163_1 := (cell_far (p := ⟨gb162, 5, none⟩) (by first | (rw [add_block]; exact hn163_1) | (show (Addr.add _ _).block ≠ _; rw [add_block]; exact hn163_1) | exact hn163_1) (.int .i64 ((rd_T50 l0 x5_1).f4.f0))).trans hx163_1
                    replace hy163_1 := fun (n_ : Nat) => (cell_far (p := ⟨gb162, 5, none⟩) (by first | (rw [add_block]; exact hn163_1) | (show (Addr.add _ _).block ≠ _; rw [add_block]; exact hn163_1) | exact hn163_1) (.int .i64 ((rd_T50 l0 x5_1).f4.f0))).trans (hy163_1 n_)
                    replace hx163_1 := (cell_far (p := ⟨gb162, 6, none⟩) (by first | (rw [add_block]; exact hn163_1) | (show (Addr.add _ _).block ≠ _; rw [add_block]; exact hn163_1) | exact hn163_1) (.int .i64 ((rd_T50 l0 x5_1).f4.f1))).trans hx163_1
                    replace hy163_1 := fun (n_ : Nat) => (cell_far (p := ⟨gb162, 6, none⟩) (by first | (rw [add_block]; exact hn163_1) | (show (Addr.add _ _).block ≠ _; rw [add_block]; exact hn163_1) | exact hn163_1) (.int .i64 ((rd_T50 l0 x5_1).f4.f1))).trans (hy163_1 n_)
                    replace hx163_1 := (cell_far (p := ⟨gb162, 7, none⟩) (by first | (rw [add_block]; exact hn163_1) | (show (Addr.add _ _).block ≠ _; rw [add_block]; exact hn163_1) | exact hn163_1) (.int .i64 ((rd_T50 l0 x5_1).f5))).trans hx163_1
                    replace hy163_1 := fun (n_ : Nat) => (cell_far (p := ⟨gb162, 7, none⟩) (by first | (rw [add_block]; exact hn163_1) | (show (Addr.add _ _).block ≠ _; rw [add_block]; exact hn163_1) | exact hn163_1) (.int .i64 ((rd_T50 l0 x5_1).f5))).trans (hy163_1 n_)
                    replace hx163_1 := (cell_far (p := ⟨gb162, 8, none⟩) (by first | (rw [add_block]; exact hn163_1) | (show (Addr.add _ _).block ≠ _; rw [add_block]; exact hn163_1) | exact hn163_1) (.int .i64 ((rd_T50 l0 x5_1).f6))).trans hx163_1
                    replace hy163_1 := fun (n_ : Nat) => (cell_far (p := ⟨gb162, 8, none⟩) (by first | (rw [add_block]; exact hn163_1) | (show (Addr.add _ _).block ≠ _; rw [add_block]; exact hn163_1) | exact hn163_1) (.int .i64 ((rd_T50 l0 x5_1).f6))).trans (hy163_1 n_)
                    replace hx163_1 := (cell_far (p := ⟨gb162, 9, none⟩) (by first | (rw [add_block]; exact hn163_1) | (show (Addr.add _ _).block ≠ _; rw [add_block]; exact hn163_1) | exact hn163_1) (.int .i64 ((rd_T50 l0 x5_1).f7))).trans hx163_1
                    replace hy163_1 := fun (n_ : Nat) => (cell_far (p := ⟨gb162, 9, none⟩) (by first | (rw [add_block]; exact hn163_1) | (show (Addr.add _ _).block ≠ _; rw [add_block]; exact hn163_1) | exact hn163_1) (.int .i64 ((rd_T50 l0 x5_1).f7))).trans (hy163_1 n_)
                    replace hx163_1 := (cell_far (p := ⟨gb162, 10, none⟩) (by first | (rw [add_block]; exact hn163_1) | (show (Addr.add _ _).block ≠ _; rw [add_block]; exact hn163_1) | exact hn163_1) (.bool ((rd_T50 l0 x5_1).f8))).trans hx163_1
                    replace hy163_1 := fun (n_ : Nat) => (cell_far (p := ⟨gb162, 10, none⟩) (by first | (rw [add_block]; exact hn163_1) | (show (Addr.add _ _).block ≠ _; rw [add_block]; exact hn163_1) | exact hn163_1) (.bool ((rd_T50 l0 x5_1).f8))).trans (hy163_1 n_)
                    replace hx163_1 := (cell_far (p := ⟨gb162, 11, none⟩) (by first | (rw [add_block]; exact hn163_1) | (show (Addr.add _ _).block ≠ _; rw [add_block]; exact hn163_1) | exact hn163_1) (.int .i64 ((rd_T50 l0 x5_1).f9))).trans hx163_1
                    replace hy163_1 := fun (n_ : Nat) => (cell_far (p := ⟨gb162, 11, none⟩) (by first | (rw [add_block]; exact hn163_1) | (show (Addr.add _ _).block ≠ _; rw [add_block]; exact hn163_1) | exact hn163_1) (.int .i64 ((rd_T50 l0 x5_1).f9))).trans (hy163_1 n_)
                    replace p163 := eq_true p163
                    replace q163 := eq_true q163
                    go_wp2
                    repeat (go_quiet (fail); try go_wp2)
                    go_meet
                    case rel => exact ⟨_, ((((rd_T50 l0 x5_1).f0) != 5)), (by first | rfl | (simp; done) | (simp [*]; done)), H', ⟨by have := HK1.out; first | omega | exact Nat.le_refl _⟩, ⟨by (with_reducible repeat (first | refine blk_drewN ?_ _ | refine blk_drew ?_ | refine blk_alloc ?_ _)); refine blk_put (cs := #[.int .i64 ((rd_T50 l0 x5_1).f0), .int .i64 ((rd_T50 l0 x5_1).f1), .int .i64 ((rd_T50 l0 x5_1).f2), .int .i64 ((rd_T50 l0 x5_1).f3.f0), .int .i64 ((rd_T50 l0 x5_1).f3.f1), .int .i64 ((rd_T50 l0 x5_1).f4.f0), .int .i64 ((rd_T50 l0 x5_1).f4.f1), .int .i64 ((rd_T50 l0 x5_1).f5), .int .i64 ((rd_T50 l0 x5_1).f6), .int .i64 ((rd_T50 l0 x5_1).f7), .bool ((rd_T50 l0 x5_1).f8), .int .i64 0]) ?_ 11 _ rfl; (with_reducible repeat (first | refine blk_drewN ?_ _ | refine blk_drew ?_ | refine blk_alloc ?_ _)); refine blk_put (cs := #[.int .i64 ((rd_T50 l0 x5_1).f0), .int .i64 ((rd_T50 l0 x5_1).f1), .int .i64 ((rd_T50 l0 x5_1).f2), .int .i64 ((rd_T50 l0 x5_1).f3.f0), .int .i64 ((rd_T50 l0 x5_1).f3.f1), .int .i64 ((rd_T50 l0 x5_1).f4.f0), .int .i64 ((rd_T50 l0 x5_1).f4.f1), .int .i64 ((rd_T50 l0 x5_1).f5), .int .i64 ((rd_T50 l0 x5_1).f6), .int .i64 ((rd_T50 l0 x5_1).f7), .bool false, .int .i64 0]) ?_ 10 _ rfl; (with_reducible repeat (first | refine blk_drewN ?_ _ | refine blk_drew ?_ | refine blk_alloc ?_ _)); refine blk_put (cs := #[.int .i64 ((rd_T50 l0 x5_1).f0), .int .i64 ((rd_T50 l0 x5_1).f1), .int .i64 ((rd_T50 l0 x5_1).f2), .int .i64 ((rd_T50 l0 x5_1).f3.f0), .int .i64 ((rd_T50 l0 x5_1).f3.f1), .int .i64 ((rd_T50 l0 x5_1).f4.f0), .int .i64 ((rd_T50 l0 x5_1).f4.f1), .int .i64 ((rd_T50 l0 x5_1).f5), .int .i64 ((rd_T50 l0 x5_1).f6), .int .i64 0, .bool false, .int .i64 0]) ?_ 9 _ rfl; (with_reducible repeat (first | refine blk_drewN ?_ _ | refine blk_drew ?_ | refine blk_alloc ?_ _)); refine blk_put (cs := #[.int .i64 ((rd_T50 l0 x5_1).f0), .int .i64 ((rd_T50 l0 x5_1).f1), .int .i64 ((rd_T50 l0 x5_1).f2), .int .i64 ((rd_T50 l0 x5_1).f3.f0), .int .i64 ((rd_T50 l0 x5_1).f3.f1), .int .i64 ((rd_T50 l0 x5_1).f4.f0), .int .i64 ((rd_T50 l0 x5_1).f4.f1), .int .i64 ((rd_T50 l0 x5_1).f5), .int .i64 0, .int .i64 0, .bool false, .int .i64 0]) ?_ 8 _ rfl; (with_reducible repeat (first | refine blk_drewN ?_ _ | refine blk_drew ?_ | refine blk_alloc ?_ _)); refine blk_put (cs := #[.int .i64 ((rd_T50 l0 x5_1).f0), .int .i64 ((rd_T50 l0 x5_1).f1), .int .i64 ((rd_T50 l0 x5_1).f2), .int .i64 ((rd_T50 l0 x5_1).f3.f0), .int .i64 ((rd_T50 l0 x5_1).f3.f1), .int .i64 ((rd_T50 l0 x5_1).f4.f0), .int .i64 ((rd_T50 l0 x5_1).f4.f1), .int .i64 0, .int .i64 0, .int .i64 0, .bool false, .int .i64 0]) ?_ 7 _ rfl; (with_reducible repeat (first | refine blk_drewN ?_ _ | refine blk_drew ?_ | refine blk_alloc ?_ _)); refine blk_put (cs := #[.int .i64 ((rd_T50 l0 x5_1).f0), .int .i64 ((rd_T50 l0 x5_1).f1), .int .i64 ((rd_T50 l0 x5_1).f2), .int .i64 ((rd_T50 l0 x5_1).f3.f0), .int .i64 ((rd_T50 l0 x5_1).f3.f1), .int .i64 ((rd_T50 l0 x5_1).f4.f0), .int .i64 0, .int .i64 0, .int .i64 0, .int .i64 0, .bool false, .int .i64 0]) ?_ 6 _ rfl; (with_reducible repeat (first | refine blk_drewN ?_ _ | refine blk_drew ?_ | refine blk_alloc ?_ _)); refine blk_put (cs := #[.int .i64 ((rd_T50 l0 x5_1).f0), .int .i64 ((rd_T50 l0 x5_1).f1), .int .i64 ((rd_T50 l0 x5_1).f2), .int .i64 ((rd_T50 l0 x5_1).f3.f0), .int .i64 ((rd_T50 l0 x5_1).f3.f1), .int .i64 0, .int .i64 0, .int .i64 0, .int .i64 0, .int .i64 0, .bool false, .int .i64 0]) ?_ 5 _ rfl; (with_reducible repeat (first | refine blk_drewN ?_ _ | refine blk_drew ?_ | refine blk_alloc ?_ _)); refine blk_put (cs := #[.int .i64 ((rd_T50 l0 x5_1).f0), .int .i64 ((rd_T50 l0 x5_1).f1), .int .i64 ((rd_T50 l0 x5_1).f2), .int .i64 ((rd_T50 l0 x5_1).f3.f0), .int .i64 0, .int .i64 0, .int .i64 0, .int .i64 0, .int .i64 0, .int .i64 0, .bool false, .int .i64 0]) ?_ 4 _ rfl; (with_reducible repeat (first | refine blk_drewN ?_ _ | refine blk_drew ?_ | refine blk_alloc ?_ _)); refine blk_put (cs := #[.int .i64 ((rd_T50 l0 x5_1).f0), .int .i64 ((rd_T50 l0 x5_1).f1), .int .i64 ((rd_T50 l0 x5_1).f2), .int .i64 0, .int .i64 0, .int .i64 0, .int .i64 0, .int .i64 0, .int .i64 0, .int .i64 0, .bool false, .int .i64 0]) ?_ 3 _ rfl; (with_reducible repeat (first | refine blk_drewN ?_ _ | refine blk_drew ?_ | refine blk_alloc ?_ _)); refine blk_put (cs := #[.int .i64 ((rd_T50 l0 x5_1).f0), .int .i64 ((rd_T50 l0 x5_1).f1), .int .i64 0, .int .i64 0, .int .i64 0, .int .i64 0, .int .i64 0, .int .i64 0, .int .i64 0, .int .i64 0, .bool false, .int .i64 0]) ?_ 2 _ rfl; (with_reducible repeat (first | refine blk_drewN ?_ _ | refine blk_drew ?_ | refine blk_alloc ?_ _)); refine blk_put (cs := #[.int .i64 ((rd_T50 l0 x5_1).f0), .int .i64 0, .int .i64 0, .int .i64 0, .int .i64 0, .int .i64 0, .int .i64 0, .int .i64 0, .int .i64 0, .int .i64 0, .bool false, .int .i64 0]) ?_ 1 _ rfl; (with_reducible repeat (first | refine blk_drewN ?_ _ | refine blk_drew ?_ | refine blk_alloc ?_ _)); refine blk_put (cs := #[.int .i64 0, .int .i64 0, .int .i64 0, .int .i64 0, .int .i64 0, .int .i64 0, .int .i64 0, .int .i64 0, .int .i64 0, .int .i64 0, .bool false, .int .i64 0]) ?_ 0 _ rfl; (with_reducible repeat (first | refine blk_drewN ?_ _ | refine blk_drew ?_ | refine blk_alloc ?_ _)); exact BK162.out⟩, ⟨by repeat (first | (with_reducible first | exact HB.out | apply below_alloc | apply pw_below_drewN | apply below_drew1 | refine below_set ?_ GE162.out) | exact HB.out)⟩⟩
                · rw [if_neg c10] at H
                  have c10b0 : (((rd_T50 l0 x5_1).f1) == ((rd_T50 l0 a1).f1)) = false := beq_eq_false_iff_ne.mpr c10
                  have c10b1 : (((rd_T50 l0 x5_1).f1) != ((rd_T50 l0 a1).f1)) = true := bne_iff_ne.mpr c10
                  have H' := Aside0.mk H
                  clear H
                  have p163 : 0 ≤ (a1 : Int) := of_decide_eq_true (by first | (with_reducible assumption) | assumption)
                  have q163 : a1 < (l0.length : Int) := of_decide_eq_true (by first | (with_reducible assumption) | assumption)
                  obtain ⟨ad163, e163, hx163_0, hx163_1, hx163_2, hx163_3, hx163_4, hx163_5, hx163_6, hx163_7, hx163_8, hx163_9, hx163_10, hx163_11⟩ := at_T50 HR0.out a1 p163 q163
                  obtain rfl : ad161 = ad163 := (by injection e163)
                  have hn163_1 : ad161.block ≠ gb162 := Nat.ne_of_lt (Nat.lt_of_lt_of_le (by have := World.block_lt_of_cell? _ _ hx163_0; first | rwa [add_block] at this | exact this) GW162.out)
                  replace hx163_1 := (HB.out.cell (World.block_lt_of_cell? w _ hx163_1)).trans hx163_1
                  have hy163_1 := fun (n_ : Nat) => (show (w6.drewN n_).cell? _ = some _ from hx163_1)
                  replace hx163_1 := (cell_far (p := ⟨gb162, 0, none⟩) (by first | (rw [add_block]; exact hn163_1) | (show (Addr.add _ _).block ≠ _; rw [add_block]; exact hn163_1) | exact hn163_1) (.int .i64 ((rd_T50 l0 x5_1).f0))).trans hx163_1
                  replace hy163_1 := fun (n_ : Nat) => (cell_far (p := ⟨gb162, 0, none⟩) (by first | (rw [add_block]; exact hn163_1) | (show (Addr.add _ _).block ≠ _; rw [add_block]; exact hn163_1) | exact hn163_1) (.int .i64 ((rd_T50 l0 x5_1).f0))).trans (hy163_1 n_)
                  replace hx163_1 := (cell_far (p := ⟨gb162, 1, none⟩) (by first | (rw [add_block]; exact hn163_1) | (show (Addr.add _ _).block ≠ _; rw [add_block]; exact hn163_1) | exact hn163_1) (.int .i64 ((rd_T50 l0 x5_1).f1))).trans hx163_1
                  replace hy163_1 := fun (n_ : Nat) => (cell_far (p := ⟨gb162, 1, none⟩) (by first | (rw [add_block]; exact hn163_1) | (show (Addr.add _ _).block ≠ _; rw [add_block]; exact hn163_1) | exact hn163_1) (.int .i64 ((rd_T50 l0 x5_1).f1))).trans (hy163_1 n_)
                  replace hx163_1 := (cell_far (p := ⟨gb162, 2, none⟩) (by first | (rw [add_block]; exact hn163_1) | (show (Addr.add _ _).block ≠ _; rw [add_block]; exact hn163_1) | exact hn163_1) (.int .i64 ((rd_T50 l0 x5_1).f2))).trans hx163_1
                  replace hy163_1 := fun (n_ : Nat) => (cell_far (p := ⟨gb162, 2, none⟩) (by first | (rw [add_block]; exact hn163_1) | (show (Addr.add _ _).block ≠ _; rw [add_block]; exact hn163_1) | exact hn163_1) (.int .i64 ((rd_T50 l0 x5_1).f2))).trans (hy163_1 n_)
                  replace hx163_1 := (cell_far (p := ⟨gb162, 3, none⟩) (by first | (rw [add_block]; exact hn163_1) | (show (Addr.add _ _).block ≠ _; rw [add_block]; exact hn163_1) | exact hn163_1) (.int .i64 ((rd_T50 l0 x5_1).f3.f0))).trans hx163_1
                  replace hy163_1 := fun (n_ : Nat) => (cell_far (p := ⟨gb162, 3, none⟩) (by first | (rw [add_block]; exact hn163_1) | (show (Addr.add _ _).block ≠ _; rw [add_block]; exact hn163_1) | exact hn163_1) (.int .i64 ((rd_T50 l0 x5_1).f3.f0))).trans (hy163_1 n_)
                  replace hx163_1 := (cell_far (p := ⟨gb162, 4, none⟩) (by first | (rw [add_block]; exact hn163_1) | (show (Addr.add _ _).block ≠ _; rw [add_block]; exact hn163_1) | exact hn163_1) (.int .i64 ((rd_T50 l0 x5_1).f3.f1))).trans hx163_1
                  replace hy163_1 := fun (n_ : Nat) => (cell_far (p := ⟨gb162, 4, none⟩) (by first | (rw [add_block]; exact hn163_1) | (show (Addr.add _ _).block ≠ _; rw [add_block]; exact hn163_1) | exact hn163_1) (.int .i64 ((rd_T50 l0 x5_1).f3.f1))).trans (hy163_1 n_)
                  replace hx163_1 := (cell_far (p := ⟨gb162, 5, none⟩) (by first | (rw [add_block]; exact hn163_1) | (show (Addr.add _ _).block ≠ _; rw [add_block]; exact hn163_1) | exact hn163_1) (.int .i64 ((rd_T50 l0 x5_1).f4.f0))).trans hx163_1
                  replace hy163_1 := fun (n_ : Nat) => (cell_far (p := ⟨gb162, 5, none⟩) (by first | (rw [add_block]; exact hn163_1) | (show (Addr.add _ _).block ≠ _; rw [add_block]; exact hn163_1) | exact hn163_1) (.int .i64 ((rd_T50 l0 x5_1).f4.f0))).trans (hy163_1 n_)
                  replace hx163_1 := (cell_far (p := ⟨gb162, 6, none⟩) (by first | (rw [add_block]; exact hn163_1) | (show (Addr.add _ _).block ≠ _; rw [add_block]; exact hn163_1) | exact hn163_1) (.int .i64 ((rd_T50 l0 x5_1).f4.f1))).trans hx163_1
                  replace hy163_1 := fun (n_ : Nat) => (cell_far (p := ⟨gb162, 6, none⟩) (by first | (rw [add_block]; exact hn163_1) | (show (Addr.add _ _).block ≠ _; rw [add_block]; exact hn163_1) | exact hn163_1) (.int .i64 ((rd_T50 l0 x5_1).f4.f1))).trans (hy163_1 n_)
                  replace hx163_1 := (cell_far (p := ⟨gb162, 7, none⟩) (by first | (rw [add_block]; exact hn163_1) | (show (Addr.add _ _).block ≠ _; rw [add_block]; exact hn163_1) | exact hn163_1) (.int .i64 ((rd_T50 l0 x5_1).f5))).trans hx163_1
                  replace hy163_1 := fun (n_ : Nat) => (cell_far (p := ⟨gb162, 7, none⟩) (by first | (rw [add_block]; exact hn163_1) | (show (Addr.add _ _).block ≠ _; rw [add_block]; exact hn163_1) | exact hn163_1) (.int .i64 ((rd_T50 l0 x5_1).f5))).trans (hy163_1 n_)
                  replace hx163_1 := (cell_far (p := ⟨gb162, 8, none⟩) (by first | (rw [add_block]; exact hn163_1) | (show (Addr.add _ _).block ≠ _; rw [add_block]; exact hn163_1) | exact hn163_1) (.int .i64 ((rd_T50 l0 x5_1).f6))).trans hx163_1
                  replace hy163_1 := fun (n_ : Nat) => (cell_far (p := ⟨gb162, 8, none⟩) (by first | (rw [add_block]; exact hn163_1) | (show (Addr.add _ _).block ≠ _; rw [add_block]; exact hn163_1) | exact hn163_1) (.int .i64 ((rd_T50 l0 x5_1).f6))).trans (hy163_1 n_)
                  replace hx163_1 := (cell_far (p := ⟨gb162, 9, none⟩) (by first | (rw [add_block]; exact hn163_1) | (show (Addr.add _ _).block ≠ _; rw [add_block]; exact hn163_1) | exact hn163_1) (.int .i64 ((rd_T50 l0 x5_1).f7))).trans hx163_1
                  replace hy163_1 := fun (n_ : Nat) => (cell_far (p := ⟨gb162, 9, none⟩) (by first | (rw [add_block]; exact hn163_1) | (show (Addr.add _ _).block ≠ _; rw [add_block]; exact hn163_1) | exact hn163_1) (.int .i64 ((rd_T50 l0 x5_1).f7))).trans (hy163_1 n_)
                  replace hx163_1 := (cell_far (p := ⟨gb162, 10, none⟩) (by first | (rw [add_block]; exact hn163_1) | (show (Addr.add _ _).block ≠ _; rw [add_block]; exact hn163_1) | exact hn163_1) (.bool ((rd_T50 l0 x5_1).f8))).trans hx163_1
                  replace hy163_1 := fun (n_ : Nat) => (cell_far (p := ⟨gb162, 10, none⟩) (by first | (rw [add_block]; exact hn163_1) | (show (Addr.add _ _).block ≠ _; rw [add_block]; exact hn163_1) | exact hn163_1) (.bool ((rd_T50 l0 x5_1).f8))).trans (hy163_1 n_)
                  replace hx163_1 := (cell_far (p := ⟨gb162, 11, none⟩) (by first | (rw [add_block]; exact hn163_1) | (show (Addr.add _ _).block ≠ _; rw [add_block]; exact hn163_1) | exact hn163_1) (.int .i64 ((rd_T50 l0 x5_1).f9))).trans hx163_1
                  replace hy163_1 := fun (n_ : Nat) => (cell_far (p := ⟨gb162, 11, none⟩) (by first | (rw [add_block]; exact hn163_1) | (show (Addr.add _ _).block ≠ _; rw [add_block]; exact hn163_1) | exact hn163_1) (.int .i64 ((rd_T50 l0 x5_1).f9))).trans (hy163_1 n_)
                  replace p163 := eq_true p163
                  replace q163 := eq_true q163
                  go_wp2
                  repeat (go_quiet (fail); try go_wp2)
                  go_meet
                  case rel => exact ⟨_, (true), (by first | rfl | (simp; done) | (simp [*]; done)), H', ⟨by have := HK1.out; first | omega | exact Nat.le_refl _⟩, ⟨by (with_reducible repeat (first | refine blk_drewN ?_ _ | refine blk_drew ?_ | refine blk_alloc ?_ _)); refine blk_put (cs := #[.int .i64 ((rd_T50 l0 x5_1).f0), .int .i64 ((rd_T50 l0 x5_1).f1), .int .i64 ((rd_T50 l0 x5_1).f2), .int .i64 ((rd_T50 l0 x5_1).f3.f0), .int .i64 ((rd_T50 l0 x5_1).f3.f1), .int .i64 ((rd_T50 l0 x5_1).f4.f0), .int .i64 ((rd_T50 l0 x5_1).f4.f1), .int .i64 ((rd_T50 l0 x5_1).f5), .int .i64 ((rd_T50 l0 x5_1).f6), .int .i64 ((rd_T50 l0 x5_1).f7), .bool ((rd_T50 l0 x5_1).f8), .int .i64 0]) ?_ 11 _ rfl; (with_reducible repeat (first | refine blk_drewN ?_ _ | refine blk_drew ?_ | refine blk_alloc ?_ _)); refine blk_put (cs := #[.int .i64 ((rd_T50 l0 x5_1).f0), .int .i64 ((rd_T50 l0 x5_1).f1), .int .i64 ((rd_T50 l0 x5_1).f2), .int .i64 ((rd_T50 l0 x5_1).f3.f0), .int .i64 ((rd_T50 l0 x5_1).f3.f1), .int .i64 ((rd_T50 l0 x5_1).f4.f0), .int .i64 ((rd_T50 l0 x5_1).f4.f1), .int .i64 ((rd_T50 l0 x5_1).f5), .int .i64 ((rd_T50 l0 x5_1).f6), .int .i64 ((rd_T50 l0 x5_1).f7), .bool false, .int .i64 0]) ?_ 10 _ rfl; (with_reducible repeat (first | refine blk_drewN ?_ _ | refine blk_drew ?_ | refine blk_alloc ?_ _)); refine blk_put (cs := #[.int .i64 ((rd_T50 l0 x5_1).f0), .int .i64 ((rd_T50 l0 x5_1).f1), .int .i64 ((rd_T50 l0 x5_1).f2), .int .i64 ((rd_T50 l0 x5_1).f3.f0), .int .i64 ((rd_T50 l0 x5_1).f3.f1), .int .i64 ((rd_T50 l0 x5_1).f4.f0), .int .i64 ((rd_T50 l0 x5_1).f4.f1), .int .i64 ((rd_T50 l0 x5_1).f5), .int .i64 ((rd_T50 l0 x5_1).f6), .int .i64 0, .bool false, .int .i64 0]) ?_ 9 _ rfl; (with_reducible repeat (first | refine blk_drewN ?_ _ | refine blk_drew ?_ | refine blk_alloc ?_ _)); refine blk_put (cs := #[.int .i64 ((rd_T50 l0 x5_1).f0), .int .i64 ((rd_T50 l0 x5_1).f1), .int .i64 ((rd_T50 l0 x5_1).f2), .int .i64 ((rd_T50 l0 x5_1).f3.f0), .int .i64 ((rd_T50 l0 x5_1).f3.f1), .int .i64 ((rd_T50 l0 x5_1).f4.f0), .int .i64 ((rd_T50 l0 x5_1).f4.f1), .int .i64 ((rd_T50 l0 x5_1).f5), .int .i64 0, .int .i64 0, .bool false, .int .i64 0]) ?_ 8 _ rfl; (with_reducible repeat (first | refine blk_drewN ?_ _ | refine blk_drew ?_ | refine blk_alloc ?_ _)); refine blk_put (cs := #[.int .i64 ((rd_T50 l0 x5_1).f0), .int .i64 ((rd_T50 l0 x5_1).f1), .int .i64 ((rd_T50 l0 x5_1).f2), .int .i64 ((rd_T50 l0 x5_1).f3.f0), .int .i64 ((rd_T50 l0 x5_1).f3.f1), .int .i64 ((rd_T50 l0 x5_1).f4.f0), .int .i64 ((rd_T50 l0 x5_1).f4.f1), .int .i64 0, .int .i64 0, .int .i64 0, .bool false, .int .i64 0]) ?_ 7 _ rfl; (with_reducible repeat (first | refine blk_drewN ?_ _ | refine blk_drew ?_ | refine blk_alloc ?_ _)); refine blk_put (cs := #[.int .i64 ((rd_T50 l0 x5_1).f0), .int .i64 ((rd_T50 l0 x5_1).f1), .int .i64 ((rd_T50 l0 x5_1).f2), .int .i64 ((rd_T50 l0 x5_1).f3.f0), .int .i64 ((rd_T50 l0 x5_1).f3.f1), .int .i64 ((rd_T50 l0 x5_1).f4.f0), .int .i64 0, .int .i64 0, .int .i64 0, .int .i64 0, .bool false, .int .i64 0]) ?_ 6 _ rfl; (with_reducible repeat (first | refine blk_drewN ?_ _ | refine blk_drew ?_ | refine blk_alloc ?_ _)); refine blk_put (cs := #[.int .i64 ((rd_T50 l0 x5_1).f0), .int .i64 ((rd_T50 l0 x5_1).f1), .int .i64 ((rd_T50 l0 x5_1).f2), .int .i64 ((rd_T50 l0 x5_1).f3.f0), .int .i64 ((rd_T50 l0 x5_1).f3.f1), .int .i64 0, .int .i64 0, .int .i64 0, .int .i64 0, .int .i64 0, .bool false, .int .i64 0]) ?_ 5 _ rfl; (with_reducible repeat (first | refine blk_drewN ?_ _ | refine blk_drew ?_ | refine blk_alloc ?_ _)); refine blk_put (cs := #[.int .i64 ((rd_T50 l0 x5_1).f0), .int .i64 ((rd_T50 l0 x5_1).f1), .int .i64 ((rd_T50 l0 x5_1).f2), .int .i64 ((rd_T50 l0 x5_1).f3.f0), .int .i64 0, .int .i64 0, .int .i64 0, .int .i64 0, .int .i64 0, .int .i64 0, .bool false, .int .i64 0]) ?_ 4 _ rfl; (with_reducible repeat (first | refine blk_drewN ?_ _ | refine blk_drew ?_ | refine blk_alloc ?_ _)); refine blk_put (cs := #[.int .i64 ((rd_T50 l0 x5_1).f0), .int .i64 ((rd_T50 l0 x5_1).f1), .int .i64 ((rd_T50 l0 x5_1).f2), .int .i64 0, .int .i64 0, .int .i64 0, .int .i64 0, .int .i64 0, .int .i64 0, .int .i64 0, .bool false, .int .i64 0]) ?_ 3 _ rfl; (with_reducible repeat (first | refine blk_drewN ?_ _ | refine blk_drew ?_ | refine blk_alloc ?_ _)); refine blk_put (cs := #[.int .i64 ((rd_T50 l0 x5_1).f0), .int .i64 ((rd_T50 l0 x5_1).f1), .int .i64 0, .int .i64 0, .int .i64 0, .int .i64 0, .int .i64 0, .int .i64 0, .int .i64 0, .int .i64 0, .bool false, .int .i64 0]) ?_ 2 _ rfl; (with_reducible repeat (first | refine blk_drewN ?_ _ | refine blk_drew ?_ | refine blk_alloc ?_ _)); refine blk_put (cs := #[.int .i64 ((rd_T50 l0 x5_1).f0), .int .i64 0, .int .i64 0, .int .i64 0, .int .i64 0, .int .i64 0, .int .i64 0, .int .i64 0, .int .i64 0, .int .i64 0, .bool false, .int .i64 0]) ?_ 1 _ rfl; (with_reducible repeat (first | refine blk_drewN ?_ _ | refine blk_drew ?_ | refine blk_alloc ?_ _)); refine blk_put (cs := #[.int .i64 0, .int .i64 0, .int .i64 0, .int .i64 0, .int .i64 0, .int .i64 0, .int .i64 0, .int .i64 0, .int .i64 0, .int .i64 0, .bool false, .int .i64 0]) ?_ 0 _ rfl; (with_reducible repeat (first | refine blk_drewN ?_ _ | refine blk_drew ?_ | refine blk_alloc ?_ _)); exact BK162.out⟩, ⟨by repeat (first | (with_reducible first | exact HB.out | apply below_alloc | apply pw_below_drewN | apply below_drew1 | refine below_set ?_ GE162.out) | exact HB.out)⟩⟩
              · rw [if_neg c9] at H
                exact absurd H (by simp)
            · rw [if_neg c8] at H
              exact absurd H (by simp)
          case rest =>
            clear HC5; (try clear c1); (try clear p1); (try clear q1); (try clear hx1); (try clear p2); (try clear c8); (try clear c9); (try clear c10); (try clear c10b0); (try clear c10b1); (try clear c11); (try clear c11b0); (try clear c11b1); (try clear hcz13_0); (try clear hcz13_1); (try clear hcz13_10); (try clear hcz13_11); (try clear hcz13_2); (try clear hcz13_3); (try clear hcz13_4); (try clear hcz13_5); (try clear hcz13_6); (try clear hcz13_7); (try clear hcz13_8); (try clear hcz13_9); (try clear hcz14_0); (try clear hcz14_1); (try clear hcz14_10); (try clear hcz14_11); (try clear hcz14_2); (try clear hcz14_3); (try clear hcz14_4); (try clear hcz14_5); (try clear hcz14_6); (try clear hcz14_7); (try clear hcz14_8); (try clear hcz14_9); (try clear hfz13_0); (try clear hfz13_1); (try clear hfz13_10); (try clear hfz13_11); (try clear hfz13_2); (try clear hfz13_3); (try clear hfz13_4); (try clear hfz13_5); (try clear hfz13_6); (try clear hfz13_7); (try clear hfz13_8); (try clear hfz13_9); (try clear hfz14_0); (try clear hfz14_1); (try clear hfz14_10); (try clear hfz14_11); (try clear hfz14_2); (try clear hfz14_3); (try clear hfz14_4); (try clear hfz14_5); (try clear hfz14_6); (try clear hfz14_7); (try clear hfz14_8); (try clear hfz14_9); (try clear hx163_0); (try clear hx163_1); (try clear hx163_10); (try clear hx163_11); (try clear hx163_2); (try clear hx163_3); (try clear hx163_4); (try clear hx163_5); (try clear hx163_6); (try clear hx163_7); (try clear hx163_8); (try clear hx163_9); (try clear p163); (try clear q163)
            obtain ⟨kq, x36_4, rfl, HA, HJ4, BK162, HB⟩ := hcut
            cases kq with
            | zero => exact absurd HA.out (by simp [knellref14_End.j1])
            | succ kj4 =>
              have H := HA.out
              clear HA
              simp only [knellref14_End.j1] at H
              by_cases c15 : x36_4 = true
              · subst c15
                have H1 : (knellref14_End.l0 kj4 l0 a1 (wrap64 (x5_1 + 1))) = some r := by rw [if_pos rfl] at H; exact H
                clear H
                have H := H1
                clear H1
                have H' := Aside0.mk H
                clear H
                go_wp2
                repeat (go_quiet (fail); try go_wp2)
                go_roundg kj4
                case measure => have := HK1.out; have := HJ4.out; omega
                case rel => exact ⟨(wrap64 (x5_1 + 1)), (by first | rfl | (simp; done) | (simp [*]; done)), H', ⟨by have := HK1.out; have := HJ4.out; omega⟩, ⟨by repeat (first | (with_reducible first | exact HB.out | apply below_alloc | apply pw_below_drewN | apply below_drew1 | refine below_set ?_ GE162.out) | exact HB.out)⟩⟩
              · replace c15 := Bool.eq_false_iff.mpr c15
                subst c15
                have H1 : (if ((rd_T50 l0 x5_1).f0) = 2 then (some (-1)) else (if 0 ≤ a1 then (if a1 < (l0.length : Int) then (if ((rd_T50 l0 x5_1).f2) = ((rd_T50 l0 a1).f2) then (some x5_1) else (knellref14_End.l0 kj4 l0 a1 (wrap64 (x5_1 + 1)))) else (none)) else (none))) = some r := by rw [if_neg (show ¬ (false = true) by decide)] at H; exact H
                clear H
                have H := H1
                clear H1
                by_cases c16 : ((rd_T50 l0 x5_1).f0) = 2
                · rw [if_pos c16] at H
                  have c16b0 : (((rd_T50 l0 x5_1).f0) == 2) = true := beq_iff_eq.mpr c16
                  have c16b1 : (((rd_T50 l0 x5_1).f0) != 2) = false := bne_eq_false_iff_eq.mpr c16
                  clear c16
                  obtain rfl := Option.some.inj H
                  have hcz17_0 : wc.cell? ⟨gb162, 0, none⟩ = some (.int .i64 ((rd_T50 l0 x5_1).f0)) := (blk_cell BK162.out 0).trans rfl
                  have hcz17_1 : wc.cell? ⟨gb162, 1, none⟩ = some (.int .i64 ((rd_T50 l0 x5_1).f1)) := (blk_cell BK162.out 1).trans rfl
                  have hcz17_2 : wc.cell? ⟨gb162, 2, none⟩ = some (.int .i64 ((rd_T50 l0 x5_1).f2)) := (blk_cell BK162.out 2).trans rfl
                  go_wp2
                  repeat (go_quiet (fail); try go_wp2)
                  go_ret
                  exact ⟨by first | rfl | (simp [errW_none, errW_some] <;> rfl) | (simp [*, errW_none, errW_some] <;> rfl), by repeat (first | (with_reducible first | exact HB.out | apply below_alloc | apply pw_below_drewN | apply below_drew1 | refine below_set ?_ GE162.out) | exact HB.out)⟩
                · rw [if_neg c16] at H
                  have c16b0 : (((rd_T50 l0 x5_1).f0) == 2) = false := beq_eq_false_iff_ne.mpr c16
                  have c16b1 : (((rd_T50 l0 x5_1).f0) != 2) = true := bne_iff_ne.mpr c16
                  by_cases c18 : 0 ≤ a1
                  · rw [if_pos c18] at H
                    have c18b0 : decide (0 ≤ a1) = true := decide_eq_true c18
                    clear c18
                    by_cases c19 : a1 < (l0.length : Int)
                    · rw [if_pos c19] at H
                      have c19b0 : decide (a1 < (l0.length : Int)) = true := decide_eq_true c19
                      clear c19
                      by_cases c20 : ((rd_T50 l0 x5_1).f2) = ((rd_T50 l0 a1).f2)
                      · rw [if_pos c20] at H
                        have c20b0 : (((rd_T50 l0 x5_1).f2) == ((rd_T50 l0 a1).f2)) = true := beq_iff_eq.mpr c20
                        have c20b1 : (((rd_T50 l0 x5_1).f2) != ((rd_T50 l0 a1).f2)) = false := bne_eq_false_iff_eq.mpr c20
                        clear c20
                        obtain rfl := Option.some.inj H
                        have hcz21_0 : wc.cell? ⟨gb162, 0, none⟩ = some (.int .i64 ((rd_T50 l0 x5_1).f0)) := (blk_cell BK162.out 0).trans rfl
                        have hcz21_1 : wc.cell? ⟨gb162, 1, none⟩ = some (.int .i64 ((rd_T50 l0 x5_1).f1)) := (blk_cell BK162.out 1).trans rfl
                        have hcz21_2 : wc.cell? ⟨gb162, 2, none⟩ = some (.int .i64 ((rd_T50 l0 x5_1).f2)) := (blk_cell BK162.out 2).trans rfl
                        have p164 : 0 ≤ (a1 : Int) := of_decide_eq_true (by first | (with_reducible assumption) | assumption)
                        have q164 : a1 < (l0.length : Int) := of_decide_eq_true (by first | (with_reducible assumption) | assumption)
                        obtain ⟨ad164, e164, hx164_0, hx164_1, hx164_2, hx164_3, hx164_4, hx164_5, hx164_6, hx164_7, hx164_8, hx164_9, hx164_10, hx164_11⟩ := at_T50 HR0.out a1 p164 q164
                        obtain rfl : ad161 = ad164 := (by injection e164)
                        replace hx164_2 := (HB.out.cell (World.block_lt_of_cell? w _ hx164_2)).trans hx164_2
                        replace p164 := eq_true p164
                        replace q164 := eq_true q164
                        go_wp2
                        repeat (go_quiet (fail); try go_wp2)
                        go_ret
                        exact ⟨by first | rfl | (simp [errW_none, errW_some] <;> rfl) | (simp [*, errW_none, errW_some] <;> rfl), by repeat (first | (with_reducible first | exact HB.out | apply below_alloc | apply pw_below_drewN | apply below_drew1 | refine below_set ?_ GE162.out) | exact HB.out)⟩
                      · rw [if_neg c20] at H
                        have c20b0 : (((rd_T50 l0 x5_1).f2) == ((rd_T50 l0 a1).f2)) = false := beq_eq_false_iff_ne.mpr c20
                        have c20b1 : (((rd_T50 l0 x5_1).f2) != ((rd_T50 l0 a1).f2)) = true := bne_iff_ne.mpr c20
                        have H' := Aside0.mk H
                        clear H
                        have hcz22_0 : wc.cell? ⟨gb162, 0, none⟩ = some (.int .i64 ((rd_T50 l0 x5_1).f0)) := (blk_cell BK162.out 0).trans rfl
                        have hcz22_1 : wc.cell? ⟨gb162, 1, none⟩ = some (.int .i64 ((rd_T50 l0 x5_1).f1)) := (blk_cell BK162.out 1).trans rfl
                        have hcz22_2 : wc.cell? ⟨gb162, 2, none⟩ = some (.int .i64 ((rd_T50 l0 x5_1).f2)) := (blk_cell BK162.out 2).trans rfl
                        have p164 : 0 ≤ (a1 : Int) := of_decide_eq_true (by first | (with_reducible assumption) | assumption)
                        have q164 : a1 < (l0.length : Int) := of_decide_eq_true (by first | (with_reducible assumption) | assumption)
                        obtain ⟨ad164, e164, hx164_0, hx164_1, hx164_2, hx164_3, hx164_4, hx164_5, hx164_6, hx164_7, hx164_8, hx164_9, hx164_10, hx164_11⟩ := at_T50 HR0.out a1 p164 q164
                        obtain rfl : ad161 = ad164 := (by injection e164)
                        replace hx164_2 := (HB.out.cell (World.block_lt_of_cell? w _ hx164_2)).trans hx164_2
                        replace p164 := eq_true p164
                        replace q164 := eq_true q164
                        go_wp2
                        repeat (go_quiet (fail); try go_wp2)
                        go_roundg kj4
                        case measure => have := HK1.out; have := HJ4.out; omega
                        case rel => exact ⟨(wrap64 (x5_1 + 1)), (by first | rfl | (simp; done) | (simp [*]; done)), H', ⟨by have := HK1.out; have := HJ4.out; omega⟩, ⟨by repeat (first | (with_reducible first | exact HB.out | apply below_alloc | apply pw_below_drewN | apply below_drew1 | refine below_set ?_ GE162.out) | exact HB.out)⟩⟩
                    · rw [if_neg c19] at H
                      exact absurd H (by simp)
                  · rw [if_neg c18] at H
                    exact absurd H (by simp)
        · rw [if_neg c4] at H
          exact absurd H (by simp)
      · rw [if_neg c3] at H
        have c3b0 : decide (x5_1 < (l0.length : Int)) = false := decide_eq_false c3
        clear c3
        obtain rfl := Option.some.inj H
        go_wp2
        repeat (go_quiet (fail); try go_wp2)
        go_ret
        exact ⟨by first | rfl | (simp [errW_none, errW_some] <;> rfl) | (simp [*, errW_none, errW_some] <;> rfl), by repeat (first | (with_reducible first | exact HB.out | apply below_alloc | apply pw_below_drewN | apply below_drew1) | exact HB.out)⟩

end Go.Proofs.Ythniclbmpeklmaa.KAud
