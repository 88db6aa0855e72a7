/- What is proved: each Go function named here comes to what the plain function of its name comes to, whatever the memory; no conditions. Written by a program of this session (kp.py) over the kit's print. -/
import Derived.Test.YthniclbmpeklmaaKAudx0
import Derived.Test.YthniclbmpeklmaaKAudx1
import Derived.Test.YthniclbmpeklmaaKAudx2
namespace Go.Proofs.Ythniclbmpeklmaa.KAud
open Go.RowKit Go.Proofs.YthniclbmpeklmaaW.PrintWords Go.Proofs.YthniclbmpeklmaaW.PrintLast Go.Proofs.YthniclbmpeklmaaW.PrintMore
attribute [local go_sem] max2_int min2_int max_two min_two max_three min_three max_four min_four   -- for this text's walks alone
set_option linter.unusedVariables false
set_option linter.unusedSimpArgs false

attribute [local go_sem high] eqA36
/-! ### knellref14_Made: function 52 -/
def knellref14_Made.l0 : Nat → List (S50) → Int → Int → Int → Option (Int)
  | 0, _, _, _, _ => none
  | k + 1, x0, x5, x150000, x150001 => if x5 < (x0.length : Int) then (if 0 ≤ x5 then ((knellref14_makes.f ((rd_T50 x0 x5).f0) ((rd_T50 x0 x5).f1) ((rd_T50 x0 x5).f2) ((rd_T50 x0 x5).f3.f0) ((rd_T50 x0 x5).f3.f1) ((rd_T50 x0 x5).f4.f0) ((rd_T50 x0 x5).f4.f1) ((rd_T50 x0 x5).f5) ((rd_T50 x0 x5).f6) ((rd_T50 x0 x5).f7) ((rd_T50 x0 x5).f8) ((rd_T50 x0 x5).f9)).bind fun t151 => (if t151 = true then (if (((rd_T50 x0 x5).f4.f0) == x150000 && (((rd_T50 x0 x5).f4.f1) == x150001)) = true then (some x5) else (knellref14_Made.l0 k x0 (wrap64 (x5 + 1)) x150000 x150001)) else (knellref14_Made.l0 k x0 (wrap64 (x5 + 1)) x150000 x150001))) else (none)) else (some (-1))
def knellref14_Made.f (k : Nat) (l0 : List (S50)) (a1_0 : Int) (a1_1 : Int) : Option (Int) := knellref14_Made.l0 k l0 0 a1_0 a1_1
theorem knellref14_Made.mono_l : ∀ k, (∀ y0 y1 y2 y3, LeO (knellref14_Made.l0 k y0 y1 y2 y3) (knellref14_Made.l0 (k + 1) y0 y1 y2 y3))
  | 0 => fun _ _ _ _ r h => by simp [knellref14_Made.l0] at h
  | k + 1 => by
    have ih0 := knellref14_Made.mono_l k
    · intro y0 y1 y2 y3
      unfold knellref14_Made.l0
      repeat' first
      | (with_reducible exact ih0 _ _ _ _)
      | (with_reducible exact LeO.refl _)
      | (with_reducible exact LeO.none _)
      | (with_reducible refine LeO.ite ?_ ?_)
      | (with_reducible refine LeO.bind ?_ (fun _ => ?_))
      | exact ih0 _ _ _ _
      | exact LeO.none _
      | refine LeO.ite ?_ ?_
      | refine LeO.bind ?_ (fun _ => ?_)
theorem knellref14_Made.mono : ∀ a0 a1 a2 k, LeO (knellref14_Made.f k a0 a1 a2) (knellref14_Made.f (k + 1) a0 a1 a2) := by
  intro a0 a1 a2 k
  have ih0 := knellref14_Made.mono_l k
  unfold knellref14_Made.f
  repeat' first
      | (with_reducible exact ih0 _ _ _ _)
      | (with_reducible exact LeO.refl _)
      | (with_reducible exact LeO.none _)
      | (with_reducible refine LeO.ite ?_ ?_)
      | (with_reducible refine LeO.bind ?_ (fun _ => ?_))
      | exact ih0 _ _ _ _
      | exact LeO.none _
      | refine LeO.ite ?_ ?_
      | refine LeO.bind ?_ (fun _ => ?_)
def knellref14_Made.T4 : Bool × List (List Nat × List Nat) := (true, [([], []), ([], []), ([0, 1], [0, 1]), ([2], [2]), ([3], [3]), ([4, 4], [4]), ([5], [5]), ([5], [5]), ([6, 7, 5], [5, 6, 7]), ([8, 5], [5, 8]), ([9, 5], [5, 9]), ([5], [5]), ([10, 11, 5], [5, 10, 11]), ([5, 12], [5, 12])])
def knellref14_Made.B4 : List Nat := [0, 0, 3, 7, 15, 31, 63, 63, 255, 511, 1023, 63, 4095, 8191]
theorem knellref14_Made.tab4 : rtab .any (opsOf Try.f52 4) = knellref14_Made.T4 := by kernel_rfl
theorem knellref14_Made.bits4 : waitsOk knellref14_Made.T4.2 knellref14_Made.B4 = true := by kernel_rfl
set_option maxHeartbeats 8000000 in
set_option maxRecDepth 100000 in
theorem knellref14_Made.calls (k : Nat) (A0 : Option Addr) (c0 : Nat) (l0 : List (S50)) (a1_0 : Int) (a1_1 : Int) (r : Int) (w : World) (hr0 : Kd.C k50 w A0 l0.length l0) (hc0 : l0.length ≤ c0) (h : knellref14_Made.f k l0 a1_0 a1_1 = some r) :
    Calls Try.prog 52 #[.slice A0 l0.length c0, .agg #[.int .i64 a1_0, .int .i64 a1_1]] w fun e w' => e = .returned (.int .i64 r) ∧ Below w.heap.size w w' := by
  have hu36 := Try.underlying36
  have hu50 := Try.underlying50
  have HR0 := Aside0.mk hr0
  have HC0 := Aside0.mk hc0
  clear hr0 hc0
  have HB := Aside0.mk (Below.refl w.heap.size w)
  have H : (knellref14_Made.l0 k l0 0 a1_0 a1_1) = some r := h
  clear h
  have H' := Aside0.mk H
  clear H
  go_enter Try.func52, Try.ntmps52
  go_wp2_with (first | ((with_reducible refine gate_dst (N := 3) rfl ?_); refine box_event ?hg (N := 3) ?hd (cs := #[.int .i64 a1_0, .int .i64 a1_1]) (t := 36) ?hr ?_; (case hd => rfl); (case hg => rfl); (case hr => first | (go_simp; done) | (go_simp; rfl)); intro gb149 hg w3 hbox hb; have n0_ := Aside0.mk (below_step (by repeat (first | (with_reducible first | exact HB.out | apply below_alloc | apply pw_below_drewN | apply below_drew1) | exact HB.out)) hb); have n1_ := Aside0.mk (hbox); have n2_ := Aside0.mk ((by rw [hg]; exact (below_size (by repeat (first | (with_reducible first | exact HB.out | apply below_alloc | apply pw_below_drewN | apply below_drew1) | exact HB.out))) : w.heap.size ≤ gb149)); have n3_ := Aside0.mk ((by rw [hg]; exact (below_size (by repeat (first | (with_reducible first | exact HB.out | apply below_alloc | apply pw_below_drewN | apply below_drew1) | exact HB.out))) : w.heap.size ≤ gb149)); clear HB; have HB := n0_; have BK149 := n1_; have GW149 := n2_; have GE149 := n3_; clear n0_ n1_ n2_ n3_; clear hb hbox hg))
  go_loopg [5] k (fun kq v5 w' => ∃ (x5_1 : Int), v5 = .int .i64 x5_1 ∧ Aside0 (knellref14_Made.l0 kq l0 x5_1 a1_0 a1_1 = some r) ∧ Aside0 (kq ≤ k) ∧ Aside0 (w'.heap[gb149]? = some (.cells #[.int .i64 a1_0, .int .i64 a1_1] 36 (0, 0))) ∧ Aside0 (Below w.heap.size w w'))
  case atStart => exact ⟨(0), (by first | rfl | (simp; done) | (simp [*]; done)), H', ⟨Nat.le_refl _⟩, ⟨by (with_reducible repeat (first | refine blk_drewN ?_ _ | refine blk_drew ?_ | refine blk_alloc ?_ _)); exact BK149.out⟩, ⟨by repeat (first | (with_reducible first | exact HB.out | apply below_alloc | apply pw_below_drewN | apply below_drew1 | refine below_set ?_ GE149.out) | exact HB.out)⟩⟩
  case round =>
    clear H'
    (try clear p2)
    obtain ⟨x5_1, rfl, HA, HK1, BK149, HB⟩ := hrel
    cases gk with
    | zero => exact absurd HA.out (by simp [knellref14_Made.l0])
    | succ k1 =>
      have H := HA.out
      clear HA
      simp only [knellref14_Made.l0] at H
      by_cases c4 : x5_1 < (l0.length : Int)
      · rw [if_pos c4] at H
        have c4b0 : decide (x5_1 < (l0.length : Int)) = true := decide_eq_true c4
        clear c4
        by_cases c5 : 0 ≤ x5_1
        · rw [if_pos c5] at H
          have c5b0 : decide (0 ≤ x5_1) = true := decide_eq_true c5
          clear c5
          replace H := Option.bind_eq_some_iff.mp H
          obtain ⟨t151, A60, H⟩ := H
          replace H : (if t151 = true then (if (((rd_T50 l0 x5_1).f4.f0) == a1_0 && (((rd_T50 l0 x5_1).f4.f1) == a1_1)) = true then (some x5_1) else (knellref14_Made.l0 k1 l0 (wrap64 (x5_1 + 1)) a1_0 a1_1)) else (knellref14_Made.l0 k1 l0 (wrap64 (x5_1 + 1)) a1_0 a1_1)) = some r := H
          have A6 := Aside0.mk A60
          clear A60
          by_cases c7 : t151 = true
          · subst c7
            have H1 : (if (((rd_T50 l0 x5_1).f4.f0) == a1_0 && (((rd_T50 l0 x5_1).f4.f1) == a1_1)) = true then (some x5_1) else (knellref14_Made.l0 k1 l0 (wrap64 (x5_1 + 1)) a1_0 a1_1)) = some r := by rw [if_pos rfl] at H; exact H
            clear H
            have H := H1
            clear H1
            by_cases c8 : (((rd_T50 l0 x5_1).f4.f0) == a1_0 && (((rd_T50 l0 x5_1).f4.f1) == a1_1)) = true
            · rw [if_pos c8] at H
              have c8b0 : (((rd_T50 l0 x5_1).f4.f0) == a1_0 && (((rd_T50 l0 x5_1).f4.f1) == a1_1)) = true := c8
              (try (have c8b1 : decide (((rd_T50 l0 x5_1).f4.f0) = a1_0 && (((rd_T50 l0 x5_1).f4.f1) == a1_1)) = true := by simpa using c8))
              (try (have c8b2 : (((rd_T50 l0 x5_1).f4.f0) == a1_0 && (((rd_T50 l0 x5_1).f4.f1) == a1_1)) = true := by simpa using c8))
              clear c8
              obtain rfl := Option.some.inj H
              try go_wp2
              have n0_ := Aside0.mk (blk_drew BK149.out)
              have n1_ := Aside0.mk (below_drew1 HB.out)
              clear BK149; clear HB
              have BK149 := n0_
              have HB := n1_
              clear n0_ n1_
              have p150 : 0 ≤ (x5_1 : Int) := of_decide_eq_true (by first | (with_reducible assumption) | assumption)
              have q150 : x5_1 < (l0.length : Int) := of_decide_eq_true (by first | (with_reducible assumption) | assumption)
              obtain ⟨ad150, e150, hx150_0, hx150_1, hx150_2, hx150_3, hx150_4, hx150_5, hx150_6, hx150_7, hx150_8, hx150_9, hx150_10, hx150_11⟩ := at_T50 HR0.out x5_1 p150 q150
              have hw150_11 := hx150_11
              have hw150_10 := hx150_10
              have hw150_9 := hx150_9
              have hw150_8 := hx150_8
              have hw150_7 := hx150_7
              have hw150_6 := hx150_6
              have hw150_5 := hx150_5
              have hw150_4 := hx150_4
              have hw150_3 := hx150_3
              have hw150_2 := hx150_2
              have hw150_1 := hx150_1
              have hw150_0 := hx150_0
              cases e150
              replace hx150_0 := (HB.out.cell (World.block_lt_of_cell? w _ hx150_0)).trans hx150_0
              replace hx150_1 := (HB.out.cell (World.block_lt_of_cell? w _ hx150_1)).trans hx150_1
              replace hx150_2 := (HB.out.cell (World.block_lt_of_cell? w _ hx150_2)).trans hx150_2
              replace hx150_3 := (HB.out.cell (World.block_lt_of_cell? w _ hx150_3)).trans hx150_3
              replace hx150_4 := (HB.out.cell (World.block_lt_of_cell? w _ hx150_4)).trans hx150_4
              replace hx150_5 := (HB.out.cell (World.block_lt_of_cell? w _ hx150_5)).trans hx150_5
              replace hx150_6 := (HB.out.cell (World.block_lt_of_cell? w _ hx150_6)).trans hx150_6
              replace hx150_7 := (HB.out.cell (World.block_lt_of_cell? w _ hx150_7)).trans hx150_7
              replace hx150_8 := (HB.out.cell (World.block_lt_of_cell? w _ hx150_8)).trans hx150_8
              replace hx150_9 := (HB.out.cell (World.block_lt_of_cell? w _ hx150_9)).trans hx150_9
              replace hx150_10 := (HB.out.cell (World.block_lt_of_cell? w _ hx150_10)).trans hx150_10
              replace hx150_11 := (HB.out.cell (World.block_lt_of_cell? w _ hx150_11)).trans hx150_11
              replace p150 := eq_true p150
              replace q150 := eq_true q150
              have p152 : 0 ≤ (x5_1 : Int) := of_decide_eq_true (by first | (with_reducible assumption) | assumption)
              have q152 : x5_1 < (l0.length : Int) := of_decide_eq_true (by first | (with_reducible assumption) | assumption)
              obtain ⟨ad152, e152, hx152_0, hx152_1, hx152_2, hx152_3, hx152_4, hx152_5, hx152_6, hx152_7, hx152_8, hx152_9, hx152_10, hx152_11⟩ := at_T50 HR0.out x5_1 p152 q152
              have hw152_11 := hx152_11
              have hw152_10 := hx152_10
              have hw152_9 := hx152_9
              have hw152_8 := hx152_8
              have hw152_7 := hx152_7
              have hw152_6 := hx152_6
              have hw152_5 := hx152_5
              have hw152_4 := hx152_4
              have hw152_3 := hx152_3
              have hw152_2 := hx152_2
              have hw152_1 := hx152_1
              have hw152_0 := hx152_0
              obtain rfl : ad150 = ad152 := (by injection e152)
              replace hx152_0 := (HB.out.cell (World.block_lt_of_cell? w _ hx152_0)).trans hx152_0
              replace hx152_1 := (HB.out.cell (World.block_lt_of_cell? w _ hx152_1)).trans hx152_1
              replace hx152_2 := (HB.out.cell (World.block_lt_of_cell? w _ hx152_2)).trans hx152_2
              replace hx152_3 := (HB.out.cell (World.block_lt_of_cell? w _ hx152_3)).trans hx152_3
              replace hx152_4 := (HB.out.cell (World.block_lt_of_cell? w _ hx152_4)).trans hx152_4
              replace hx152_5 := (HB.out.cell (World.block_lt_of_cell? w _ hx152_5)).trans hx152_5
              replace hx152_6 := (HB.out.cell (World.block_lt_of_cell? w _ hx152_6)).trans hx152_6
              replace hx152_7 := (HB.out.cell (World.block_lt_of_cell? w _ hx152_7)).trans hx152_7
              replace hx152_8 := (HB.out.cell (World.block_lt_of_cell? w _ hx152_8)).trans hx152_8
              replace hx152_9 := (HB.out.cell (World.block_lt_of_cell? w _ hx152_9)).trans hx152_9
              replace hx152_10 := (HB.out.cell (World.block_lt_of_cell? w _ hx152_10)).trans hx152_10
              replace hx152_11 := (HB.out.cell (World.block_lt_of_cell? w _ hx152_11)).trans hx152_11
              replace p152 := eq_true p152
              replace q152 := eq_true q152
              refine start_ (n := 14) (S := fun w' => w'.cell? ⟨gb149, 0, none⟩ = some (.int .i64 a1_0) ∧ w'.cell? ⟨gb149, 1, none⟩ = some (.int .i64 a1_1) ∧ w'.cell? (ad150.add ((x5_1).toNat * 12)) = some (.int .i64 ((rd_T50 l0 x5_1).f0)) ∧ w'.cell? ⟨(ad150.add ((x5_1).toNat * 12)).block, (ad150.add ((x5_1).toNat * 12)).off + 1, none⟩ = some (.int .i64 ((rd_T50 l0 x5_1).f1)) ∧ w'.cell? ⟨(ad150.add ((x5_1).toNat * 12)).block, (ad150.add ((x5_1).toNat * 12)).off + 2, none⟩ = some (.int .i64 ((rd_T50 l0 x5_1).f2)) ∧ w'.cell? ⟨(ad150.add ((x5_1).toNat * 12)).block, (ad150.add ((x5_1).toNat * 12)).off + 3, none⟩ = some (.int .i64 ((rd_T50 l0 x5_1).f3.f0)) ∧ w'.cell? ⟨(ad150.add ((x5_1).toNat * 12)).block, (ad150.add ((x5_1).toNat * 12)).off + 4, none⟩ = some (.int .i64 ((rd_T50 l0 x5_1).f3.f1)) ∧ w'.cell? ⟨(ad150.add ((x5_1).toNat * 12)).block, (ad150.add ((x5_1).toNat * 12)).off + 5, none⟩ = some (.int .i64 ((rd_T50 l0 x5_1).f4.f0)) ∧ w'.cell? ⟨(ad150.add ((x5_1).toNat * 12)).block, (ad150.add ((x5_1).toNat * 12)).off + 6, none⟩ = some (.int .i64 ((rd_T50 l0 x5_1).f4.f1)) ∧ w'.cell? ⟨(ad150.add ((x5_1).toNat * 12)).block, (ad150.add ((x5_1).toNat * 12)).off + 7, none⟩ = some (.int .i64 ((rd_T50 l0 x5_1).f5)) ∧ w'.cell? ⟨(ad150.add ((x5_1).toNat * 12)).block, (ad150.add ((x5_1).toNat * 12)).off + 8, none⟩ = some (.int .i64 ((rd_T50 l0 x5_1).f6)) ∧ w'.cell? ⟨(ad150.add ((x5_1).toNat * 12)).block, (ad150.add ((x5_1).toNat * 12)).off + 9, none⟩ = some (.int .i64 ((rd_T50 l0 x5_1).f7)) ∧ w'.cell? ⟨(ad150.add ((x5_1).toNat * 12)).block, (ad150.add ((x5_1).toNat * 12)).off + 10, none⟩ = some (.bool ((rd_T50 l0 x5_1).f8)) ∧ w'.cell? ⟨(ad150.add ((x5_1).toNat * 12)).block, (ad150.add ((x5_1).toNat * 12)).off + 11, none⟩ = some (.int .i64 ((rd_T50 l0 x5_1).f9)) ∧ w'.cell? (ad150.add ((x5_1).toNat * 12)) = some (.int .i64 ((rd_T50 l0 x5_1).f0)) ∧ w'.cell? ⟨(ad150.add ((x5_1).toNat * 12)).block, (ad150.add ((x5_1).toNat * 12)).off + 1, none⟩ = some (.int .i64 ((rd_T50 l0 x5_1).f1)) ∧ w'.cell? ⟨(ad150.add ((x5_1).toNat * 12)).block, (ad150.add ((x5_1).toNat * 12)).off + 2, none⟩ = some (.int .i64 ((rd_T50 l0 x5_1).f2)) ∧ w'.cell? ⟨(ad150.add ((x5_1).toNat * 12)).block, (ad150.add ((x5_1).toNat * 12)).off + 3, none⟩ = some (.int .i64 ((rd_T50 l0 x5_1).f3.f0)) ∧ w'.cell? ⟨(ad150.add ((x5_1).toNat * 12)).block, (ad150.add ((x5_1).toNat * 12)).off + 4, none⟩ = some (.int .i64 ((rd_T50 l0 x5_1).f3.f1)) ∧ w'.cell? ⟨(ad150.add ((x5_1).toNat * 12)).block, (ad150.add ((x5_1).toNat * 12)).off + 5, none⟩ = some (.int .i64 ((rd_T50 l0 x5_1).f4.f0)) ∧ w'.cell? ⟨(ad150.add ((x5_1).toNat * 12)).block, (ad150.add ((x5_1).toNat * 12)).off + 6, none⟩ = some (.int .i64 ((rd_T50 l0 x5_1).f4.f1)) ∧ w'.cell? ⟨(ad150.add ((x5_1).toNat * 12)).block, (ad150.add ((x5_1).toNat * 12)).off + 7, none⟩ = some (.int .i64 ((rd_T50 l0 x5_1).f5)) ∧ w'.cell? ⟨(ad150.add ((x5_1).toNat * 12)).block, (ad150.add ((x5_1).toNat * 12)).off + 8, none⟩ = some (.int .i64 ((rd_T50 l0 x5_1).f6)) ∧ w'.cell? ⟨(ad150.add ((x5_1).toNat * 12)).block, (ad150.add ((x5_1).toNat * 12)).off + 9, none⟩ = some (.int .i64 ((rd_T50 l0 x5_1).f7)) ∧ w'.cell? ⟨(ad150.add ((x5_1).toNat * 12)).block, (ad150.add ((x5_1).toNat * 12)).off + 10, none⟩ = some (.bool ((rd_T50 l0 x5_1).f8)) ∧ w'.cell? ⟨(ad150.add ((x5_1).toNat * 12)).block, (ad150.add ((x5_1).toNat * 12)).off + 11, none⟩ = some (.int .i64 ((rd_T50 l0 x5_1).f9))) (ds := []) #[false, false, false, false, false, false, false, false, false, false, false, false, false, false] (by kernel_rfl) rfl rfl ⟨(blk_cell BK149.out 0).trans rfl, (blk_cell BK149.out 1).trans rfl, ((HB.out.cell (World.block_lt_of_cell? w _ hw150_0)).trans hw150_0), ((HB.out.cell (World.block_lt_of_cell? w _ hw150_1)).trans hw150_1), ((HB.out.cell (World.block_lt_of_cell? w _ hw150_2)).trans hw150_2), ((HB.out.cell (World.block_lt_of_cell? w _ hw150_3)).trans hw150_3), ((HB.out.cell (World.block_lt_of_cell? w _ hw150_4)).trans hw150_4), ((HB.out.cell (World.block_lt_of_cell? w _ hw150_5)).trans hw150_5), ((HB.out.cell (World.block_lt_of_cell? w _ hw150_6)).trans hw150_6), ((HB.out.cell (World.block_lt_of_cell? w _ hw150_7)).trans hw150_7), ((HB.out.cell (World.block_lt_of_cell? w _ hw150_8)).trans hw150_8), ((HB.out.cell (World.block_lt_of_cell? w _ hw150_9)).trans hw150_9), ((HB.out.cell (World.block_lt_of_cell? w _ hw150_10)).trans hw150_10), ((HB.out.cell (World.block_lt_of_cell? w _ hw150_11)).trans hw150_11), ((HB.out.cell (World.block_lt_of_cell? w _ hw152_0)).trans hw152_0), ((HB.out.cell (World.block_lt_of_cell? w _ hw152_1)).trans hw152_1), ((HB.out.cell (World.block_lt_of_cell? w _ hw152_2)).trans hw152_2), ((HB.out.cell (World.block_lt_of_cell? w _ hw152_3)).trans hw152_3), ((HB.out.cell (World.block_lt_of_cell? w _ hw152_4)).trans hw152_4), ((HB.out.cell (World.block_lt_of_cell? w _ hw152_5)).trans hw152_5), ((HB.out.cell (World.block_lt_of_cell? w _ hw152_6)).trans hw152_6), ((HB.out.cell (World.block_lt_of_cell? w _ hw152_7)).trans hw152_7), ((HB.out.cell (World.block_lt_of_cell? w _ hw152_8)).trans hw152_8), ((HB.out.cell (World.block_lt_of_cell? w _ hw152_9)).trans hw152_9), ((HB.out.cell (World.block_lt_of_cell? w _ hw152_10)).trans hw152_10), ((HB.out.cell (World.block_lt_of_cell? w _ hw152_11)).trans hw152_11)⟩ (fun hHeld => ?_); refine with_tabW knellref14_Made.tab4 knellref14_Made.bits4 (fun HT_ HW_ => ?_)
              generalize wr.drew = w9 at BK149 HB hx150_0 hx150_1 hx150_10 hx150_11 hx150_2 hx150_3 hx150_4 hx150_5 hx150_6 hx150_7 hx150_8 hx150_9 hx152_0 hx152_1 hx152_10 hx152_11 hx152_2 hx152_3 hx152_4 hx152_5 hx152_6 hx152_7 hx152_8 hx152_9 hHeld ⊢
              refine pure_ (i := 0) (N := some 12) (v := ?_) (a' := ?_) #[true, false, false, false, false, false, false, false, false, false, false, false, false, false] rfl rfl (any_of HT_.out (by kernel_rfl)) (fun _ _ _ h => h) (Or.inl ⟨by rfl, ?_⟩) ?_ ?_
              rotate_left
              · intro w'
                go_simp
                with_reducible rfl
              rotate_left
              · simp only [Act.put, List.setIfInBounds_toArray, List.set_cons_zero, List.set_cons_succ, i64_w, i32_w]
                rfl
              refine pure_ (i := 1) (N := some 13) (v := ?_) (a' := ?_) #[true, true, false, false, false, false, false, false, false, false, false, false, false, false] rfl rfl (any_of HT_.out (by kernel_rfl)) (fun _ _ _ h => h) (Or.inl ⟨by rfl, ?_⟩) ?_ ?_
              rotate_left
              · intro w'
                go_simp
                with_reducible rfl
              rotate_left
              · simp only [Act.put, List.setIfInBounds_toArray, List.set_cons_zero, List.set_cons_succ, i64_w, i32_w]
                rfl
              refine pure_ (i := 2) (N := some 14) (v := ?_) (a' := ?_) #[true, true, true, false, false, false, false, false, false, false, false, false, false, false] rfl rfl (any_of HT_.out (by kernel_rfl)) (fun _ _ _ h => h) (Or.inl ⟨by rfl, ?_⟩) ?_ ?_
              rotate_left
              · intro w'
                go_simp
                with_reducible rfl
              rotate_left
              · simp only [Act.put, List.setIfInBounds_toArray, List.set_cons_zero, List.set_cons_succ, i64_w, i32_w]
                rfl
              refine take_ (i := 3) (N := some 15) (v := ?_) (a' := ?_) #[true, true, true, true, false, false, false, false, false, false, false, false, false, false] rfl rfl (take_ofW HT_.out HW_.out (by kernel_rfl)) (fun _ _ _ h => h) (Or.inl ⟨by rfl, ?_⟩) hHeld ?_ ?_
              rotate_left
              · rintro w' ⟨s0, s1, s2, s3, s4, s5, s6, s7, s8, s9, s10, s11, s12, s13, s14, s15, s16, s17, s18, s19, s20, s21, s22, s23, s24, s25⟩
                go_simp
                with_reducible rfl
              rotate_left
              · simp only [Act.put, List.setIfInBounds_toArray, List.set_cons_zero, List.set_cons_succ, i64_w, i32_w]
                rfl
              refine one_ (i := 4) (N := some 16) #[true, true, true, true, true, false, false, false, false, false, false, false, false, false] rfl rfl (one_of HT_.out (by kernel_rfl)) (by decide) (fun K hK => ?_)
              refine goes_ Try.func85 (by kernel_rfl) rfl #[.agg #[.int .i64 ((rd_T50 l0 x5_1).f0), .int .i64 ((rd_T50 l0 x5_1).f1), .int .i64 ((rd_T50 l0 x5_1).f2), .int .i64 ((rd_T50 l0 x5_1).f3.f0), .int .i64 ((rd_T50 l0 x5_1).f3.f1), .int .i64 ((rd_T50 l0 x5_1).f4.f0), .int .i64 ((rd_T50 l0 x5_1).f4.f1), .int .i64 ((rd_T50 l0 x5_1).f5), .int .i64 ((rd_T50 l0 x5_1).f6), .int .i64 ((rd_T50 l0 x5_1).f7), .bool ((rd_T50 l0 x5_1).f8), .int .i64 ((rd_T50 l0 x5_1).f9)]] (by rfl) rfl rfl (by (try simp only [List.map_toArray, List.map_cons, List.map_nil]); first | done | rfl | (simp only [List.length_drop, List.length_take]; rfl)) ?_
              with_reducible refine (knellref14_makes.calls ((rd_T50 l0 x5_1).f0) ((rd_T50 l0 x5_1).f1) ((rd_T50 l0 x5_1).f2) ((rd_T50 l0 x5_1).f3.f0) ((rd_T50 l0 x5_1).f3.f1) ((rd_T50 l0 x5_1).f4.f0) ((rd_T50 l0 x5_1).f4.f1) ((rd_T50 l0 x5_1).f5) ((rd_T50 l0 x5_1).f6) ((rd_T50 l0 x5_1).f7) ((rd_T50 l0 x5_1).f8) ((rd_T50 l0 x5_1).f9) true _ A6.out).mono ?_
              rintro e w10 ⟨rfl, hb⟩
              refine ⟨_, rfl, ?_⟩
              have n0_ := Aside0.mk (blk_below (g := gb149) (o := .cells #[.int .i64 a1_0, .int .i64 a1_1] 36 (0, 0)) (by (with_reducible repeat (first | refine blk_drewN ?_ _ | refine blk_drew ?_ | refine blk_alloc ?_ _)); exact BK149.out) hb)
              have n1_ := Aside0.mk (below_step (by repeat (first | (with_reducible first | exact HB.out | apply below_alloc | apply pw_below_drewN | apply below_drew1 | refine below_set ?_ GE149.out) | exact HB.out)) hb)
              clear BK149; clear HB
              have BK149 := n0_
              have HB := n1_
              clear n0_ n1_
              (try clear hb)
              (try clear hb2)
              (try clear hk)
              (try clear hi)
              refine hK.out _ _ ⟨(blk_cell BK149.out 0).trans rfl, (blk_cell BK149.out 1).trans rfl, ((HB.out.cell (World.block_lt_of_cell? w _ hw150_0)).trans hw150_0), ((HB.out.cell (World.block_lt_of_cell? w _ hw150_1)).trans hw150_1), ((HB.out.cell (World.block_lt_of_cell? w _ hw150_2)).trans hw150_2), ((HB.out.cell (World.block_lt_of_cell? w _ hw150_3)).trans hw150_3), ((HB.out.cell (World.block_lt_of_cell? w _ hw150_4)).trans hw150_4), ((HB.out.cell (World.block_lt_of_cell? w _ hw150_5)).trans hw150_5), ((HB.out.cell (World.block_lt_of_cell? w _ hw150_6)).trans hw150_6), ((HB.out.cell (World.block_lt_of_cell? w _ hw150_7)).trans hw150_7), ((HB.out.cell (World.block_lt_of_cell? w _ hw150_8)).trans hw150_8), ((HB.out.cell (World.block_lt_of_cell? w _ hw150_9)).trans hw150_9), ((HB.out.cell (World.block_lt_of_cell? w _ hw150_10)).trans hw150_10), ((HB.out.cell (World.block_lt_of_cell? w _ hw150_11)).trans hw150_11), ((HB.out.cell (World.block_lt_of_cell? w _ hw152_0)).trans hw152_0), ((HB.out.cell (World.block_lt_of_cell? w _ hw152_1)).trans hw152_1), ((HB.out.cell (World.block_lt_of_cell? w _ hw152_2)).trans hw152_2), ((HB.out.cell (World.block_lt_of_cell? w _ hw152_3)).trans hw152_3), ((HB.out.cell (World.block_lt_of_cell? w _ hw152_4)).trans hw152_4), ((HB.out.cell (World.block_lt_of_cell? w _ hw152_5)).trans hw152_5), ((HB.out.cell (World.block_lt_of_cell? w _ hw152_6)).trans hw152_6), ((HB.out.cell (World.block_lt_of_cell? w _ hw152_7)).trans hw152_7), ((HB.out.cell (World.block_lt_of_cell? w _ hw152_8)).trans hw152_8), ((HB.out.cell (World.block_lt_of_cell? w _ hw152_9)).trans hw152_9), ((HB.out.cell (World.block_lt_of_cell? w _ hw152_10)).trans hw152_10), ((HB.out.cell (World.block_lt_of_cell? w _ hw152_11)).trans hw152_11)⟩ (fun hHeld => ?_)
              clear hK K
              refine norm_ (a' := ?_) ?_ ?_
              rotate_left
              · show Act.put _ (some 16) _ = _
                simp only [Act.put, List.setIfInBounds_toArray, List.set_cons_zero, List.set_cons_succ, i64_w, i32_w]
                rfl
              refine pure_ (i := 5) (N := some 17) (v := ?_) (a' := ?_) #[true, true, true, true, true, true, false, false, false, false, false, false, false, false] rfl rfl (any_of HT_.out (by kernel_rfl)) (fun _ _ _ h => h) (Or.inl ⟨by rfl, ?_⟩) ?_ ?_
              rotate_left
              · intro w'
                go_simp
                with_reducible rfl
              rotate_left
              · simp only [Act.put, List.setIfInBounds_toArray, List.set_cons_zero, List.set_cons_succ, i64_w, i32_w]
                rfl
              refine pure_ (i := 6) (N := some 18) (v := ?_) (a' := ?_) #[true, true, true, true, true, true, true, false, false, false, false, false, false, false] rfl rfl (any_of HT_.out (by kernel_rfl)) (fun _ _ _ h => h) (Or.inl ⟨by rfl, ?_⟩) ?_ ?_
              rotate_left
              · intro w'
                go_simp
                with_reducible rfl
              rotate_left
              · simp only [Act.put, List.setIfInBounds_toArray, List.set_cons_zero, List.set_cons_succ, i64_w, i32_w]
                rfl
              refine pure_ (i := 7) (N := some 19) (v := ?_) (a' := ?_) #[true, true, true, true, true, true, true, true, false, false, false, false, false, false] rfl rfl (any_of HT_.out (by kernel_rfl)) (fun _ _ _ h => h) (Or.inl ⟨by rfl, ?_⟩) ?_ ?_
              rotate_left
              · intro w'
                go_simp
                with_reducible rfl
              rotate_left
              · simp only [Act.put, List.setIfInBounds_toArray, List.set_cons_zero, List.set_cons_succ, i64_w, i32_w]
                rfl
              refine pure_ (i := 8) (N := some 20) (v := ?_) (a' := ?_) #[true, true, true, true, true, true, true, true, true, false, false, false, false, false] rfl rfl (any_of HT_.out (by kernel_rfl)) (fun _ _ _ h => h) (Or.inl ⟨by rfl, ?_⟩) ?_ ?_
              rotate_left
              · intro w'
                go_simp
                with_reducible rfl
              rotate_left
              · simp only [Act.put, List.setIfInBounds_toArray, List.set_cons_zero, List.set_cons_succ, i64_w, i32_w]
                rfl
              refine pure_ (i := 9) (N := some 21) (v := ?_) (a' := ?_) #[true, true, true, true, true, true, true, true, true, true, false, false, false, false] rfl rfl (any_of HT_.out (by kernel_rfl)) (fun _ _ _ h => h) (Or.inl ⟨by rfl, ?_⟩) ?_ ?_
              rotate_left
              · intro w'
                go_simp
                with_reducible rfl
              rotate_left
              · simp only [Act.put, List.setIfInBounds_toArray, List.set_cons_zero, List.set_cons_succ, i64_w, i32_w]
                rfl
              refine take_ (i := 10) (N := some 22) (v := ?_) (a' := ?_) #[true, true, true, true, true, true, true, true, true, true, true, false, false, false] rfl rfl (take_ofW HT_.out HW_.out (by kernel_rfl)) (fun _ _ _ h => h) (Or.inl ⟨by rfl, ?_⟩) hHeld ?_ ?_
              rotate_left
              · rintro w' ⟨s0, s1, s2, s3, s4, s5, s6, s7, s8, s9, s10, s11, s12, s13, s14, s15, s16, s17, s18, s19, s20, s21, s22, s23, s24, s25⟩
                go_simp
                with_reducible rfl
              rotate_left
              · simp only [Act.put, List.setIfInBounds_toArray, List.set_cons_zero, List.set_cons_succ, i64_w, i32_w]
                rfl
              refine take_ (i := 11) (N := some 23) (v := ?_) (a' := ?_) #[true, true, true, true, true, true, true, true, true, true, true, true, false, false] rfl rfl (take_ofW HT_.out HW_.out (by kernel_rfl)) (fun _ _ _ h => h) (Or.inl ⟨by rfl, ?_⟩) hHeld ?_ ?_
              rotate_left
              · rintro w' ⟨s0, s1, s2, s3, s4, s5, s6, s7, s8, s9, s10, s11, s12, s13, s14, s15, s16, s17, s18, s19, s20, s21, s22, s23, s24, s25⟩
                go_simp
                with_reducible rfl
              rotate_left
              · simp only [Act.put, List.setIfInBounds_toArray, List.set_cons_zero, List.set_cons_succ, i64_w, i32_w]
                rfl
              refine pure_ (i := 12) (N := some 24) (v := ?_) (a' := ?_) #[true, true, true, true, true, true, true, true, true, true, true, true, true, false] rfl rfl (any_of HT_.out (by kernel_rfl)) (fun _ _ _ h => h) (Or.inl ⟨by rfl, ?_⟩) ?_ ?_
              rotate_left
              · intro w'
                go_simp
                with_reducible rfl
              rotate_left
              · simp only [Act.put, List.setIfInBounds_toArray, List.set_cons_zero, List.set_cons_succ, i64_w, i32_w]
                rfl
              refine pure_ (i := 13) (N := some 25) (v := ?_) (a' := ?_) #[true, true, true, true, true, true, true, true, true, true, true, true, true, true] rfl rfl (any_of HT_.out (by kernel_rfl)) (fun _ _ _ h => h) (Or.inl ⟨by rfl, ?_⟩) ?_ ?_
              rotate_left
              · intro w'
                go_simp
                with_reducible rfl
              rotate_left
              · simp only [Act.put, List.setIfInBounds_toArray, List.set_cons_zero, List.set_cons_succ, i64_w, i32_w]
                rfl
              refine done_ (done_of HT_.out (by kernel_rfl)) ?_
              try go_wp2
              go_ret
              exact ⟨by first | rfl | (simp [errW_none, errW_some] <;> rfl) | (simp [*, errW_none, errW_some] <;> rfl), by repeat (first | (with_reducible first | exact HB.out | apply below_alloc | apply pw_below_drewN | apply below_drew1 | refine below_set ?_ GE149.out) | exact HB.out)⟩
            · rw [if_neg c8] at H
              have c8b0 : (((rd_T50 l0 x5_1).f4.f0) == a1_0 && (((rd_T50 l0 x5_1).f4.f1) == a1_1)) = false := by simpa using c8
              (try (have c8b1 : decide (((rd_T50 l0 x5_1).f4.f0) = a1_0 && (((rd_T50 l0 x5_1).f4.f1) == a1_1)) = false := by simpa using c8))
              (try (have c8b2 : (((rd_T50 l0 x5_1).f4.f0) == a1_0 && (((rd_T50 l0 x5_1).f4.f1) == a1_1)) = false := by simpa using c8))
              (try (have c8b3 : ¬ (((rd_T50 l0 x5_1).f4.f0) = a1_0 && (((rd_T50 l0 x5_1).f4.f1) == a1_1)) := by simpa using c8))
              clear c8
              have H' := Aside0.mk H
              clear H
              try go_wp2
              have n0_ := Aside0.mk (blk_drew BK149.out)
              have n1_ := Aside0.mk (below_drew1 HB.out)
              clear BK149; clear HB
              have BK149 := n0_
              have HB := n1_
              clear n0_ n1_
              have p150 : 0 ≤ (x5_1 : Int) := of_decide_eq_true (by first | (with_reducible assumption) | assumption)
              have q150 : x5_1 < (l0.length : Int) := of_decide_eq_true (by first | (with_reducible assumption) | assumption)
              obtain ⟨ad150, e150, hx150_0, hx150_1, hx150_2, hx150_3, hx150_4, hx150_5, hx150_6, hx150_7, hx150_8, hx150_9, hx150_10, hx150_11⟩ := at_T50 HR0.out x5_1 p150 q150
              have hw150_11 := hx150_11
              have hw150_10 := hx150_10
              have hw150_9 := hx150_9
              have hw150_8 := hx150_8
              have hw150_7 := hx150_7
              have hw150_6 := hx150_6
              have hw150_5 := hx150_5
              have hw150_4 := hx150_4
              have hw150_3 := hx150_3
              have hw150_2 := hx150_2
              have hw150_1 := hx150_1
              have hw150_0 := hx150_0
              cases e150
              replace hx150_0 := (HB.out.cell (World.block_lt_of_cell? w _ hx150_0)).trans hx150_0
              replace hx150_1 := (HB.out.cell (World.block_lt_of_cell? w _ hx150_1)).trans hx150_1
              replace hx150_2 := (HB.out.cell (World.block_lt_of_cell? w _ hx150_2)).trans hx150_2
              replace hx150_3 := (HB.out.cell (World.block_lt_of_cell? w _ hx150_3)).trans hx150_3
              replace hx150_4 := (HB.out.cell (World.block_lt_of_cell? w _ hx150_4)).trans hx150_4
              replace hx150_5 := (HB.out.cell (World.block_lt_of_cell? w _ hx150_5)).trans hx150_5
              replace hx150_6 := (HB.out.cell (World.block_lt_of_cell? w _ hx150_6)).trans hx150_6
              replace hx150_7 := (HB.out.cell (World.block_lt_of_cell? w _ hx150_7)).trans hx150_7
              replace hx150_8 := (HB.out.cell (World.block_lt_of_cell? w _ hx150_8)).trans hx150_8
              replace hx150_9 := (HB.out.cell (World.block_lt_of_cell? w _ hx150_9)).trans hx150_9
              replace hx150_10 := (HB.out.cell (World.block_lt_of_cell? w _ hx150_10)).trans hx150_10
              replace hx150_11 := (HB.out.cell (World.block_lt_of_cell? w _ hx150_11)).trans hx150_11
              replace p150 := eq_true p150
              replace q150 := eq_true q150
              have p152 : 0 ≤ (x5_1 : Int) := of_decide_eq_true (by first | (with_reducible assumption) | assumption)
              have q152 : x5_1 < (l0.length : Int) := of_decide_eq_true (by first | (with_reducible assumption) | assumption)
              obtain ⟨ad152, e152, hx152_0, hx152_1, hx152_2, hx152_3, hx152_4, hx152_5, hx152_6, hx152_7, hx152_8, hx152_9, hx152_10, hx152_11⟩ := at_T50 HR0.out x5_1 p152 q152
              have hw152_11 := hx152_11
              have hw152_10 := hx152_10
              have hw152_9 := hx152_9
              have hw152_8 := hx152_8
              have hw152_7 := hx152_7
              have hw152_6 := hx152_6
              have hw152_5 := hx152_5
              have hw152_4 := hx152_4
              have hw152_3 := hx152_3
              have hw152_2 := hx152_2
              have hw152_1 := hx152_1
              have hw152_0 := hx152_0
              obtain rfl : ad150 = ad152 := (by injection e152)
              replace hx152_0 := (HB.out.cell (World.block_lt_of_cell? w _ hx152_0)).trans hx152_0
              replace hx152_1 := (HB.out.cell (World.block_lt_of_cell? w _ hx152_1)).trans hx152_1
              replace hx152_2 := (HB.out.cell (World.block_lt_of_cell? w _ hx152_2)).trans hx152_2
              replace hx152_3 := (HB.out.cell (World.block_lt_of_cell? w _ hx152_3)).trans hx152_3
              replace hx152_4 := (HB.out.cell (World.block_lt_of_cell? w _ hx152_4)).trans hx152_4
              replace hx152_5 := (HB.out.cell (World.block_lt_of_cell? w _ hx152_5)).trans hx152_5
              replace hx152_6 := (HB.out.cell (World.block_lt_of_cell? w _ hx152_6)).trans hx152_6
              replace hx152_7 := (HB.out.cell (World.block_lt_of_cell? w _ hx152_7)).trans hx152_7
              replace hx152_8 := (HB.out.cell (World.block_lt_of_cell? w _ hx152_8)).trans hx152_8
              replace hx152_9 := (HB.out.cell (World.block_lt_of_cell? w _ hx152_9)).trans hx152_9
              replace hx152_10 := (HB.out.cell (World.block_lt_of_cell? w _ hx152_10)).trans hx152_10
              replace hx152_11 := (HB.out.cell (World.block_lt_of_cell? w _ hx152_11)).trans hx152_11
              replace p152 := eq_true p152
              replace q152 := eq_true q152
              refine start_ (n := 14) (S := fun w' => w'.cell? ⟨gb149, 0, none⟩ = some (.int .i64 a1_0) ∧ w'.cell? ⟨gb149, 1, none⟩ = some (.int .i64 a1_1) ∧ w'.cell? (ad150.add ((x5_1).toNat * 12)) = some (.int .i64 ((rd_T50 l0 x5_1).f0)) ∧ w'.cell? ⟨(ad150.add ((x5_1).toNat * 12)).block, (ad150.add ((x5_1).toNat * 12)).off + 1, none⟩ = some (.int .i64 ((rd_T50 l0 x5_1).f1)) ∧ w'.cell? ⟨(ad150.add ((x5_1).toNat * 12)).block, (ad150.add ((x5_1).toNat * 12)).off + 2, none⟩ = some (.int .i64 ((rd_T50 l0 x5_1).f2)) ∧ w'.cell? ⟨(ad150.add ((x5_1).toNat * 12)).block, (ad150.add ((x5_1).toNat * 12)).off + 3, none⟩ = some (.int .i64 ((rd_T50 l0 x5_1).f3.f0)) ∧ w'.cell? ⟨(ad150.add ((x5_1).toNat * 12)).block, (ad150.add ((x5_1).toNat * 12)).off + 4, none⟩ = some (.int .i64 ((rd_T50 l0 x5_1).f3.f1)) ∧ w'.cell? ⟨(ad150.add ((x5_1).toNat * 12)).block, (ad150.add ((x5_1).toNat * 12)).off + 5, none⟩ = some (.int .i64 ((rd_T50 l0 x5_1).f4.f0)) ∧ w'.cell? ⟨(ad150.add ((x5_1).toNat * 12)).block, (ad150.add ((x5_1).toNat * 12)).off + 6, none⟩ = some (.int .i64 ((rd_T50 l0 x5_1).f4.f1)) ∧ w'.cell? ⟨(ad150.add ((x5_1).toNat * 12)).block, (ad150.add ((x5_1).toNat * 12)).off + 7, none⟩ = some (.int .i64 ((rd_T50 l0 x5_1).f5)) ∧ w'.cell? ⟨(ad150.add ((x5_1).toNat * 12)).block, (ad150.add ((x5_1).toNat * 12)).off + 8, none⟩ = some (.int .i64 ((rd_T50 l0 x5_1).f6)) ∧ w'.cell? ⟨(ad150.add ((x5_1).toNat * 12)).block, (ad150.add ((x5_1).toNat * 12)).off + 9, none⟩ = some (.int .i64 ((rd_T50 l0 x5_1).f7)) ∧ w'.cell? ⟨(ad150.add ((x5_1).toNat * 12)).block, (ad150.add ((x5_1).toNat * 12)).off + 10, none⟩ = some (.bool ((rd_T50 l0 x5_1).f8)) ∧ w'.cell? ⟨(ad150.add ((x5_1).toNat * 12)).block, (ad150.add ((x5_1).toNat * 12)).off + 11, none⟩ = some (.int .i64 ((rd_T50 l0 x5_1).f9)) ∧ w'.cell? (ad150.add ((x5_1).toNat * 12)) = some (.int .i64 ((rd_T50 l0 x5_1).f0)) ∧ w'.cell? ⟨(ad150.add ((x5_1).toNat * 12)).block, (ad150.add ((x5_1).toNat * 12)).off + 1, none⟩ = some (.int .i64 ((rd_T50 l0 x5_1).f1)) ∧ w'.cell? ⟨(ad150.add ((x5_1).toNat * 12)).block, (ad150.add ((x5_1).toNat * 12)).off + 2, none⟩ = some (.int .i64 ((rd_T50 l0 x5_1).f2)) ∧ w'.cell? ⟨(ad150.add ((x5_1).toNat * 12)).block, (ad150.add ((x5_1).toNat * 12)).off + 3, none⟩ = some (.int .i64 ((rd_T50 l0 x5_1).f3.f0)) ∧ w'.cell? ⟨(ad150.add ((x5_1).toNat * 12)).block, (ad150.add ((x5_1).toNat * 12)).off + 4, none⟩ = some (.int .i64 ((rd_T50 l0 x5_1).f3.f1)) ∧ w'.cell? ⟨(ad150.add ((x5_1).toNat * 12)).block, (ad150.add ((x5_1).toNat * 12)).off + 5, none⟩ = some (.int .i64 ((rd_T50 l0 x5_1).f4.f0)) ∧ w'.cell? ⟨(ad150.add ((x5_1).toNat * 12)).block, (ad150.add ((x5_1).toNat * 12)).off + 6, none⟩ = some (.int .i64 ((rd_T50 l0 x5_1).f4.f1)) ∧ w'.cell? ⟨(ad150.add ((x5_1).toNat * 12)).block, (ad150.add ((x5_1).toNat * 12)).off + 7, none⟩ = some (.int .i64 ((rd_T50 l0 x5_1).f5)) ∧ w'.cell? ⟨(ad150.add ((x5_1).toNat * 12)).block, (ad150.add ((x5_1).toNat * 12)).off + 8, none⟩ = some (.int .i64 ((rd_T50 l0 x5_1).f6)) ∧ w'.cell? ⟨(ad150.add ((x5_1).toNat * 12)).block, (ad150.add ((x5_1).toNat * 12)).off + 9, none⟩ = some (.int .i64 ((rd_T50 l0 x5_1).f7)) ∧ w'.cell? ⟨(ad150.add ((x5_1).toNat * 12)).block, (ad150.add ((x5_1).toNat * 12)).off + 10, none⟩ = some (.bool ((rd_T50 l0 x5_1).f8)) ∧ w'.cell? ⟨(ad150.add ((x5_1).toNat * 12)).block, (ad150.add ((x5_1).toNat * 12)).off + 11, none⟩ = some (.int .i64 ((rd_T50 l0 x5_1).f9))) (ds := []) #[false, false, false, false, false, false, false, false, false, false, false, false, false, false] (by kernel_rfl) rfl rfl ⟨(blk_cell BK149.out 0).trans rfl, (blk_cell BK149.out 1).trans rfl, ((HB.out.cell (World.block_lt_of_cell? w _ hw150_0)).trans hw150_0), ((HB.out.cell (World.block_lt_of_cell? w _ hw150_1)).trans hw150_1), ((HB.out.cell (World.block_lt_of_cell? w _ hw150_2)).trans hw150_2), ((HB.out.cell (World.block_lt_of_cell? w _ hw150_3)).trans hw150_3), ((HB.out.cell (World.block_lt_of_cell? w _ hw150_4)).trans hw150_4), ((HB.out.cell (World.block_lt_of_cell? w _ hw150_5)).trans hw150_5), ((HB.out.cell (World.block_lt_of_cell? w _ hw150_6)).trans hw150_6), ((HB.out.cell (World.block_lt_of_cell? w _ hw150_7)).trans hw150_7), ((HB.out.cell (World.block_lt_of_cell? w _ hw150_8)).trans hw150_8), ((HB.out.cell (World.block_lt_of_cell? w _ hw150_9)).trans hw150_9), ((HB.out.cell (World.block_lt_of_cell? w _ hw150_10)).trans hw150_10), ((HB.out.cell (World.block_lt_of_cell? w _ hw150_11)).trans hw150_11), ((HB.out.cell (World.block_lt_of_cell? w _ hw152_0)).trans hw152_0), ((HB.out.cell (World.block_lt_of_cell? w _ hw152_1)).trans hw152_1), ((HB.out.cell (World.block_lt_of_cell? w _ hw152_2)).trans hw152_2), ((HB.out.cell (World.block_lt_of_cell? w _ hw152_3)).trans hw152_3), ((HB.out.cell (World.block_lt_of_cell? w _ hw152_4)).trans hw152_4), ((HB.out.cell (World.block_lt_of_cell? w _ hw152_5)).trans hw152_5), ((HB.out.cell (World.block_lt_of_cell? w _ hw152_6)).trans hw152_6), ((HB.out.cell (World.block_lt_of_cell? w _ hw152_7)).trans hw152_7), ((HB.out.cell (World.block_lt_of_cell? w _ hw152_8)).trans hw152_8), ((HB.out.cell (World.block_lt_of_cell? w _ hw152_9)).trans hw152_9), ((HB.out.cell (World.block_lt_of_cell? w _ hw152_10)).trans hw152_10), ((HB.out.cell (World.block_lt_of_cell? w _ hw152_11)).trans hw152_11)⟩ (fun hHeld => ?_); refine with_tabW knellref14_Made.tab4 knellref14_Made.bits4 (fun HT_ HW_ => ?_)
              generalize wr.drew = w11 at BK149 HB hx150_0 hx150_1 hx150_10 hx150_11 hx150_2 hx150_3 hx150_4 hx150_5 hx150_6 hx150_7 hx150_8 hx150_9 hx152_0 hx152_1 hx152_10 hx152_11 hx152_2 hx152_3 hx152_4 hx152_5 hx152_6 hx152_7 hx152_8 hx152_9 hHeld ⊢
              refine pure_ (i := 0) (N := some 12) (v := ?_) (a' := ?_) #[true, false, false, false, false, false, false, false, false, false, false, false, false, false] rfl rfl (any_of HT_.out (by kernel_rfl)) (fun _ _ _ h => h) (Or.inl ⟨by rfl, ?_⟩) ?_ ?_
              rotate_left
              · intro w'
                go_simp
                with_reducible rfl
              rotate_left
              · simp only [Act.put, List.setIfInBounds_toArray, List.set_cons_zero, List.set_cons_succ, i64_w, i32_w]
                rfl
              refine pure_ (i := 1) (N := some 13) (v := ?_) (a' := ?_) #[true, true, false, false, false, false, false, false, false, false, false, false, false, false] rfl rfl (any_of HT_.out (by kernel_rfl)) (fun _ _ _ h => h) (Or.inl ⟨by rfl, ?_⟩) ?_ ?_
              rotate_left
              · intro w'
                go_simp
                with_reducible rfl
              rotate_left
              · simp only [Act.put, List.setIfInBounds_toArray, List.set_cons_zero, List.set_cons_succ, i64_w, i32_w]
                rfl
              refine pure_ (i := 2) (N := some 14) (v := ?_) (a' := ?_) #[true, true, true, false, false, false, false, false, false, false, false, false, false, false] rfl rfl (any_of HT_.out (by kernel_rfl)) (fun _ _ _ h => h) (Or.inl ⟨by rfl, ?_⟩) ?_ ?_
              rotate_left
              · intro w'
                go_simp
                with_reducible rfl
              rotate_left
              · simp only [Act.put, List.setIfInBounds_toArray, List.set_cons_zero, List.set_cons_succ, i64_w, i32_w]
                rfl
              refine take_ (i := 3) (N := some 15) (v := ?_) (a' := ?_) #[true, true, true, true, false, false, false, false, false, false, false, false, false, false] rfl rfl (take_ofW HT_.out HW_.out (by kernel_rfl)) (fun _ _ _ h => h) (Or.inl ⟨by rfl, ?_⟩) hHeld ?_ ?_
              rotate_left
              · rintro w' ⟨s0, s1, s2, s3, s4, s5, s6, s7, s8, s9, s10, s11, s12, s13, s14, s15, s16, s17, s18, s19, s20, s21, s22, s23, s24, s25⟩
                go_simp
                with_reducible rfl
              rotate_left
              · simp only [Act.put, List.setIfInBounds_toArray, List.set_cons_zero, List.set_cons_succ, i64_w, i32_w]
                rfl
              refine one_ (i := 4) (N := some 16) #[true, true, true, true, true, false, false, false, false, false, false, false, false, false] rfl rfl (one_of HT_.out (by kernel_rfl)) (by decide) (fun K hK => ?_)
              refine goes_ Try.func85 (by kernel_rfl) rfl #[.agg #[.int .i64 ((rd_T50 l0 x5_1).f0), .int .i64 ((rd_T50 l0 x5_1).f1), .int .i64 ((rd_T50 l0 x5_1).f2), .int .i64 ((rd_T50 l0 x5_1).f3.f0), .int .i64 ((rd_T50 l0 x5_1).f3.f1), .int .i64 ((rd_T50 l0 x5_1).f4.f0), .int .i64 ((rd_T50 l0 x5_1).f4.f1), .int .i64 ((rd_T50 l0 x5_1).f5), .int .i64 ((rd_T50 l0 x5_1).f6), .int .i64 ((rd_T50 l0 x5_1).f7), .bool ((rd_T50 l0 x5_1).f8), .int .i64 ((rd_T50 l0 x5_1).f9)]] (by rfl) rfl rfl (by (try simp only [List.map_toArray, List.map_cons, List.map_nil]); first | done | rfl | (simp only [List.length_drop, List.length_take]; rfl)) ?_
              with_reducible refine (knellref14_makes.calls ((rd_T50 l0 x5_1).f0) ((rd_T50 l0 x5_1).f1) ((rd_T50 l0 x5_1).f2) ((rd_T50 l0 x5_1).f3.f0) ((rd_T50 l0 x5_1).f3.f1) ((rd_T50 l0 x5_1).f4.f0) ((rd_T50 l0 x5_1).f4.f1) ((rd_T50 l0 x5_1).f5) ((rd_T50 l0 x5_1).f6) ((rd_T50 l0 x5_1).f7) ((rd_T50 l0 x5_1).f8) ((rd_T50 l0 x5_1).f9) true _ A6.out).mono ?_
              rintro e w12 ⟨rfl, hb⟩
              refine ⟨_, rfl, ?_⟩
              have n0_ := Aside0.mk (blk_below (g := gb149) (o := .cells #[.int .i64 a1_0, .int .i64 a1_1] 36 (0, 0)) (by (with_reducible repeat (first | refine blk_drewN ?_ _ | refine blk_drew ?_ | refine blk_alloc ?_ _)); exact BK149.out) hb)
              have n1_ := Aside0.mk (below_step (by repeat (first | (with_reducible first | exact HB.out | apply below_alloc | apply pw_below_drewN | apply below_drew1 | refine below_set ?_ GE149.out) | exact HB.out)) hb)
              clear BK149; clear HB
              have BK149 := n0_
              have HB := n1_
              clear n0_ n1_
              (try clear hb)
              (try clear hb2)
              (try clear hk)
              (try clear hi)
              refine hK.out _ _ ⟨(blk_cell BK149.out 0).trans rfl, (blk_cell BK149.out 1).trans rfl, ((HB.out.cell (World.block_lt_of_cell? w _ hw150_0)).trans hw150_0), ((HB.out.cell (World.block_lt_of_cell? w _ hw150_1)).trans hw150_1), ((HB.out.cell (World.block_lt_of_cell? w _ hw150_2)).trans hw150_2), ((HB.out.cell (World.block_lt_of_cell? w _ hw150_3)).trans hw150_3), ((HB.out.cell (World.block_lt_of_cell? w _ hw150_4)).trans hw150_4), ((HB.out.cell (World.block_lt_of_cell? w _ hw150_5)).trans hw150_5), ((HB.out.cell (World.block_lt_of_cell? w _ hw150_6)).trans hw150_6), ((HB.out.cell (World.block_lt_of_cell? w _ hw150_7)).trans hw150_7), ((HB.out.cell (World.block_lt_of_cell? w _ hw150_8)).trans hw150_8), ((HB.out.cell (World.block_lt_of_cell? w _ hw150_9)).trans hw150_9), ((HB.out.cell (World.block_lt_of_cell? w _ hw150_10)).trans hw150_10), ((HB.out.cell (World.block_lt_of_cell? w _ hw150_11)).trans hw150_11), ((HB.out.cell (World.block_lt_of_cell? w _ hw152_0)).trans hw152_0), ((HB.out.cell (World.block_lt_of_cell? w _ hw152_1)).trans hw152_1), ((HB.out.cell (World.block_lt_of_cell? w _ hw152_2)).trans hw152_2), ((HB.out.cell (World.block_lt_of_cell? w _ hw152_3)).trans hw152_3), ((HB.out.cell (World.block_lt_of_cell? w _ hw152_4)).trans hw152_4), ((HB.out.cell (World.block_lt_of_cell? w _ hw152_5)).trans hw152_5), ((HB.out.cell (World.block_lt_of_cell? w _ hw152_6)).trans hw152_6), ((HB.out.cell (World.block_lt_of_cell? w _ hw152_7)).trans hw152_7), ((HB.out.cell (World.block_lt_of_cell? w _ hw152_8)).trans hw152_8), ((HB.out.cell (World.block_lt_of_cell? w _ hw152_9)).trans hw152_9), ((HB.out.cell (World.block_lt_of_cell? w _ hw152_10)).trans hw152_10), ((HB.out.cell (World.block_lt_of_cell? w _ hw152_11)).trans hw152_11)⟩ (fun hHeld => ?_)
              clear hK K
              refine norm_ (a' := ?_) ?_ ?_
              rotate_left
              · show Act.put _ (some 16) _ = _
                simp only [Act.put, List.setIfInBounds_toArray, List.set_cons_zero, List.set_cons_succ, i64_w, i32_w]
                rfl
              refine pure_ (i := 5) (N := some 17) (v := ?_) (a' := ?_) #[true, true, true, true, true, true, false, false, false, false, false, false, false, false] rfl rfl (any_of HT_.out (by kernel_rfl)) (fun _ _ _ h => h) (Or.inl ⟨by rfl, ?_⟩) ?_ ?_
              rotate_left
              · intro w'
                go_simp
                with_reducible rfl
              rotate_left
              · simp only [Act.put, List.setIfInBounds_toArray, List.set_cons_zero, List.set_cons_succ, i64_w, i32_w]
                rfl
              refine pure_ (i := 6) (N := some 18) (v := ?_) (a' := ?_) #[true, true, true, true, true, true, true, false, false, false, false, false, false, false] rfl rfl (any_of HT_.out (by kernel_rfl)) (fun _ _ _ h => h) (Or.inl ⟨by rfl, ?_⟩) ?_ ?_
              rotate_left
              · intro w'
                go_simp
                with_reducible rfl
              rotate_left
              · simp only [Act.put, List.setIfInBounds_toArray, List.set_cons_zero, List.set_cons_succ, i64_w, i32_w]
                rfl
              refine pure_ (i := 7) (N := some 19) (v := ?_) (a' := ?_) #[true, true, true, true, true, true, true, true, false, false, false, false, false, false] rfl rfl (any_of HT_.out (by kernel_rfl)) (fun _ _ _ h => h) (Or.inl ⟨by rfl, ?_⟩) ?_ ?_
              rotate_left
              · intro w'
                go_simp
                with_reducible rfl
              rotate_left
              · simp only [Act.put, List.setIfInBounds_toArray, List.set_cons_zero, List.set_cons_succ, i64_w, i32_w]
                rfl
              refine pure_ (i := 8) (N := some 20) (v := ?_) (a' := ?_) #[true, true, true, true, true, true, true, true, true, false, false, false, false, false] rfl rfl (any_of HT_.out (by kernel_rfl)) (fun _ _ _ h => h) (Or.inl ⟨by rfl, ?_⟩) ?_ ?_
              rotate_left
              · intro w'
                go_simp
                with_reducible rfl
              rotate_left
              · simp only [Act.put, List.setIfInBounds_toArray, List.set_cons_zero, List.set_cons_succ, i64_w, i32_w]
                rfl
              refine pure_ (i := 9) (N := some 21) (v := ?_) (a' := ?_) #[true, true, true, true, true, true, true, true, true, true, false, false, false, false] rfl rfl (any_of HT_.out (by kernel_rfl)) (fun _ _ _ h => h) (Or.inl ⟨by rfl, ?_⟩) ?_ ?_
              rotate_left
              · intro w'
                go_simp
                with_reducible rfl
              rotate_left
              · simp only [Act.put, List.setIfInBounds_toArray, List.set_cons_zero, List.set_cons_succ, i64_w, i32_w]
                rfl
              refine take_ (i := 10) (N := some 22) (v := ?_) (a' := ?_) #[true, true, true, true, true, true, true, true, true, true, true, false, false, false] rfl rfl (take_ofW HT_.out HW_.out (by kernel_rfl)) (fun _ _ _ h => h) (Or.inl ⟨by rfl, ?_⟩) hHeld ?_ ?_
              rotate_left
              · rintro w' ⟨s0, s1, s2, s3, s4, s5, s6, s7, s8, s9, s10, s11, s12, s13, s14, s15, s16, s17, s18, s19, s20, s21, s22, s23, s24, s25⟩
                go_simp
                with_reducible rfl
              rotate_left
              · simp only [Act.put, List.setIfInBounds_toArray, List.set_cons_zero, List.set_cons_succ, i64_w, i32_w]
                rfl
              refine take_ (i := 11) (N := some 23) (v := ?_) (a' := ?_) #[true, true, true, true, true, true, true, true, true, true, true, true, false, false] rfl rfl (take_ofW HT_.out HW_.out (by kernel_rfl)) (fun _ _ _ h => h) (Or.inl ⟨by rfl, ?_⟩) hHeld ?_ ?_
              rotate_left
              · rintro w' ⟨s0, s1, s2, s3, s4, s5, s6, s7, s8, s9, s10, s11, s12, s13, s14, s15, s16, s17, s18, s19, s20, s21, s22, s23, s24, s25⟩
                go_simp
                with_reducible rfl
              rotate_left
              · simp only [Act.put, List.setIfInBounds_toArray, List.set_cons_zero, List.set_cons_succ, i64_w, i32_w]
                rfl
              refine pure_ (i := 12) (N := some 24) (v := ?_) (a' := ?_) #[true, true, true, true, true, true, true, true, true, true, true, true, true, false] rfl rfl (any_of HT_.out (by kernel_rfl)) (fun _ _ _ h => h) (Or.inl ⟨by rfl, ?_⟩) ?_ ?_
              rotate_left
              · intro w'
                go_simp
                with_reducible rfl
              rotate_left
              · simp only [Act.put, List.setIfInBounds_toArray, List.set_cons_zero, List.set_cons_succ, i64_w, i32_w]
                rfl
              refine pure_ (i := 13) (N := some 25) (v := ?_) (a' := ?_) #[true, true, true, true, true, true, true, true, true, true, true, true, true, true] rfl rfl (any_of HT_.out (by kernel_rfl)) (fun _ _ _ h => h) (Or.inl ⟨by rfl, ?_⟩) ?_ ?_
              rotate_left
              · intro w'
                go_simp
                with_reducible rfl
              rotate_left
              · simp only [Act.put, List.setIfInBounds_toArray, List.set_cons_zero, List.set_cons_succ, i64_w, i32_w]
                rfl
              refine done_ (done_of HT_.out (by kernel_rfl)) ?_
              try go_wp2
              go_roundg k1
              case measure => have := HK1.out; omega
              case rel => exact ⟨(wrap64 (x5_1 + 1)), (by first | rfl | (simp; done) | (simp [*]; done)), H', ⟨by have := HK1.out; omega⟩, ⟨by (with_reducible repeat (first | refine blk_drewN ?_ _ | refine blk_drew ?_ | refine blk_alloc ?_ _)); exact BK149.out⟩, ⟨by repeat (first | (with_reducible first | exact HB.out | apply below_alloc | apply pw_below_drewN | apply below_drew1 | refine below_set ?_ GE149.out) | exact HB.out)⟩⟩
          · replace c7 := Bool.eq_false_iff.mpr c7
            subst c7
            have H1 : (knellref14_Made.l0 k1 l0 (wrap64 (x5_1 + 1)) a1_0 a1_1) = some r := by rw [if_neg (show ¬ (false = true) by decide)] at H; exact H
            clear H
            have H := H1
            clear H1
            have H' := Aside0.mk H
            clear H
            try go_wp2
            have n0_ := Aside0.mk (blk_drew BK149.out)
            have n1_ := Aside0.mk (below_drew1 HB.out)
            clear BK149; clear HB
            have BK149 := n0_
            have HB := n1_
            clear n0_ n1_
            have p150 : 0 ≤ (x5_1 : Int) := of_decide_eq_true (by first | (with_reducible assumption) | assumption)
            have q150 : x5_1 < (l0.length : Int) := of_decide_eq_true (by first | (with_reducible assumption) | assumption)
            obtain ⟨ad150, e150, hx150_0, hx150_1, hx150_2, hx150_3, hx150_4, hx150_5, hx150_6, hx150_7, hx150_8, hx150_9, hx150_10, hx150_11⟩ := at_T50 HR0.out x5_1 p150 q150
            have hw150_11 := hx150_11
            have hw150_10 := hx150_10
            have hw150_9 := hx150_9
            have hw150_8 := hx150_8
            have hw150_7 := hx150_7
            have hw150_6 := hx150_6
            have hw150_5 := hx150_5
            have hw150_4 := hx150_4
            have hw150_3 := hx150_3
            have hw150_2 := hx150_2
            have hw150_1 := hx150_1
            have hw150_0 := hx150_0
            cases e150
            replace hx150_0 := (HB.out.cell (World.block_lt_of_cell? w _ hx150_0)).trans hx150_0
            replace hx150_1 := (HB.out.cell (World.block_lt_of_cell? w _ hx150_1)).trans hx150_1
            replace hx150_2 := (HB.out.cell (World.block_lt_of_cell? w _ hx150_2)).trans hx150_2
            replace hx150_3 := (HB.out.cell (World.block_lt_of_cell? w _ hx150_3)).trans hx150_3
            replace hx150_4 := (HB.out.cell (World.block_lt_of_cell? w _ hx150_4)).trans hx150_4
            replace hx150_5 := (HB.out.cell (World.block_lt_of_cell? w _ hx150_5)).trans hx150_5
            replace hx150_6 := (HB.out.cell (World.block_lt_of_cell? w _ hx150_6)).trans hx150_6
            replace hx150_7 := (HB.out.cell (World.block_lt_of_cell? w _ hx150_7)).trans hx150_7
            replace hx150_8 := (HB.out.cell (World.block_lt_of_cell? w _ hx150_8)).trans hx150_8
            replace hx150_9 := (HB.out.cell (World.block_lt_of_cell? w _ hx150_9)).trans hx150_9
            replace hx150_10 := (HB.out.cell (World.block_lt_of_cell? w _ hx150_10)).trans hx150_10
            replace hx150_11 := (HB.out.cell (World.block_lt_of_cell? w _ hx150_11)).trans hx150_11
            replace p150 := eq_true p150
            replace q150 := eq_true q150
            refine start_ (n := 14) (S := fun w' => w'.cell? (ad150.add ((x5_1).toNat * 12)) = some (.int .i64 ((rd_T50 l0 x5_1).f0)) ∧ w'.cell? ⟨(ad150.add ((x5_1).toNat * 12)).block, (ad150.add ((x5_1).toNat * 12)).off + 1, none⟩ = some (.int .i64 ((rd_T50 l0 x5_1).f1)) ∧ w'.cell? ⟨(ad150.add ((x5_1).toNat * 12)).block, (ad150.add ((x5_1).toNat * 12)).off + 2, none⟩ = some (.int .i64 ((rd_T50 l0 x5_1).f2)) ∧ w'.cell? ⟨(ad150.add ((x5_1).toNat * 12)).block, (ad150.add ((x5_1).toNat * 12)).off + 3, none⟩ = some (.int .i64 ((rd_T50 l0 x5_1).f3.f0)) ∧ w'.cell? ⟨(ad150.add ((x5_1).toNat * 12)).block, (ad150.add ((x5_1).toNat * 12)).off + 4, none⟩ = some (.int .i64 ((rd_T50 l0 x5_1).f3.f1)) ∧ w'.cell? ⟨(ad150.add ((x5_1).toNat * 12)).block, (ad150.add ((x5_1).toNat * 12)).off + 5, none⟩ = some (.int .i64 ((rd_T50 l0 x5_1).f4.f0)) ∧ w'.cell? ⟨(ad150.add ((x5_1).toNat * 12)).block, (ad150.add ((x5_1).toNat * 12)).off + 6, none⟩ = some (.int .i64 ((rd_T50 l0 x5_1).f4.f1)) ∧ w'.cell? ⟨(ad150.add ((x5_1).toNat * 12)).block, (ad150.add ((x5_1).toNat * 12)).off + 7, none⟩ = some (.int .i64 ((rd_T50 l0 x5_1).f5)) ∧ w'.cell? ⟨(ad150.add ((x5_1).toNat * 12)).block, (ad150.add ((x5_1).toNat * 12)).off + 8, none⟩ = some (.int .i64 ((rd_T50 l0 x5_1).f6)) ∧ w'.cell? ⟨(ad150.add ((x5_1).toNat * 12)).block, (ad150.add ((x5_1).toNat * 12)).off + 9, none⟩ = some (.int .i64 ((rd_T50 l0 x5_1).f7)) ∧ w'.cell? ⟨(ad150.add ((x5_1).toNat * 12)).block, (ad150.add ((x5_1).toNat * 12)).off + 10, none⟩ = some (.bool ((rd_T50 l0 x5_1).f8)) ∧ w'.cell? ⟨(ad150.add ((x5_1).toNat * 12)).block, (ad150.add ((x5_1).toNat * 12)).off + 11, none⟩ = some (.int .i64 ((rd_T50 l0 x5_1).f9))) (ds := []) #[false, false, false, false, false, false, false, false, false, false, false, false, false, false] (by kernel_rfl) rfl rfl ⟨((HB.out.cell (World.block_lt_of_cell? w _ hw150_0)).trans hw150_0), ((HB.out.cell (World.block_lt_of_cell? w _ hw150_1)).trans hw150_1), ((HB.out.cell (World.block_lt_of_cell? w _ hw150_2)).trans hw150_2), ((HB.out.cell (World.block_lt_of_cell? w _ hw150_3)).trans hw150_3), ((HB.out.cell (World.block_lt_of_cell? w _ hw150_4)).trans hw150_4), ((HB.out.cell (World.block_lt_of_cell? w _ hw150_5)).trans hw150_5), ((HB.out.cell (World.block_lt_of_cell? w _ hw150_6)).trans hw150_6), ((HB.out.cell (World.block_lt_of_cell? w _ hw150_7)).trans hw150_7), ((HB.out.cell (World.block_lt_of_cell? w _ hw150_8)).trans hw150_8), ((HB.out.cell (World.block_lt_of_cell? w _ hw150_9)).trans hw150_9), ((HB.out.cell (World.block_lt_of_cell? w _ hw150_10)).trans hw150_10), ((HB.out.cell (World.block_lt_of_cell? w _ hw150_11)).trans hw150_11)⟩ (fun hHeld => ?_); refine with_tabW knellref14_Made.tab4 knellref14_Made.bits4 (fun HT_ HW_ => ?_)
            generalize wr.drew = w13 at BK149 HB hx150_0 hx150_1 hx150_10 hx150_11 hx150_2 hx150_3 hx150_4 hx150_5 hx150_6 hx150_7 hx150_8 hx150_9 hHeld ⊢
            refine pure_ (i := 0) (N := some 12) (v := ?_) (a' := ?_) #[true, false, false, false, false, false, false, false, false, false, false, false, false, false] rfl rfl (any_of HT_.out (by kernel_rfl)) (fun _ _ _ h => h) (Or.inl ⟨by rfl, ?_⟩) ?_ ?_
            rotate_left
            · intro w'
              go_simp
              with_reducible rfl
            rotate_left
            · simp only [Act.put, List.setIfInBounds_toArray, List.set_cons_zero, List.set_cons_succ, i64_w, i32_w]
              rfl
            refine pure_ (i := 1) (N := some 13) (v := ?_) (a' := ?_) #[true, true, false, false, false, false, false, false, false, false, false, false, false, false] rfl rfl (any_of HT_.out (by kernel_rfl)) (fun _ _ _ h => h) (Or.inl ⟨by rfl, ?_⟩) ?_ ?_
            rotate_left
            · intro w'
              go_simp
              with_reducible rfl
            rotate_left
            · simp only [Act.put, List.setIfInBounds_toArray, List.set_cons_zero, List.set_cons_succ, i64_w, i32_w]
              rfl
            refine pure_ (i := 2) (N := some 14) (v := ?_) (a' := ?_) #[true, true, true, false, false, false, false, false, false, false, false, false, false, false] rfl rfl (any_of HT_.out (by kernel_rfl)) (fun _ _ _ h => h) (Or.inl ⟨by rfl, ?_⟩) ?_ ?_
            rotate_left
            · intro w'
              go_simp
              with_reducible rfl
            rotate_left
            · simp only [Act.put, List.setIfInBounds_toArray, List.set_cons_zero, List.set_cons_succ, i64_w, i32_w]
              rfl
            refine take_ (i := 3) (N := some 15) (v := ?_) (a' := ?_) #[true, true, true, true, false, false, false, false, false, false, false, false, false, false] rfl rfl (take_ofW HT_.out HW_.out (by kernel_rfl)) (fun _ _ _ h => h) (Or.inl ⟨by rfl, ?_⟩) hHeld ?_ ?_
            rotate_left
            · rintro w' ⟨s0, s1, s2, s3, s4, s5, s6, s7, s8, s9, s10, s11⟩
              go_simp
              with_reducible rfl
            rotate_left
            · simp only [Act.put, List.setIfInBounds_toArray, List.set_cons_zero, List.set_cons_succ, i64_w, i32_w]
              rfl
            refine one_ (i := 4) (N := some 16) #[true, true, true, true, true, false, false, false, false, false, false, false, false, false] rfl rfl (one_of HT_.out (by kernel_rfl)) (by decide) (fun K hK => ?_)
            refine goes_ Try.func85 (by kernel_rfl) rfl #[.agg #[.int .i64 ((rd_T50 l0 x5_1).f0), .int .i64 ((rd_T50 l0 x5_1).f1), .int .i64 ((rd_T50 l0 x5_1).f2), .int .i64 ((rd_T50 l0 x5_1).f3.f0), .int .i64 ((rd_T50 l0 x5_1).f3.f1), .int .i64 ((rd_T50 l0 x5_1).f4.f0), .int .i64 ((rd_T50 l0 x5_1).f4.f1), .int .i64 ((rd_T50 l0 x5_1).f5), .int .i64 ((rd_T50 l0 x5_1).f6), .int .i64 ((rd_T50 l0 x5_1).f7), .bool ((rd_T50 l0 x5_1).f8), .int .i64 ((rd_T50 l0 x5_1).f9)]] (by rfl) rfl rfl (by (try simp only [List.map_toArray, List.map_cons, List.map_nil]); first | done | rfl | (simp only [List.length_drop, List.length_take]; rfl)) ?_
            with_reducible refine (knellref14_makes.calls ((rd_T50 l0 x5_1).f0) ((rd_T50 l0 x5_1).f1) ((rd_T50 l0 x5_1).f2) ((rd_T50 l0 x5_1).f3.f0) ((rd_T50 l0 x5_1).f3.f1) ((rd_T50 l0 x5_1).f4.f0) ((rd_T50 l0 x5_1).f4.f1) ((rd_T50 l0 x5_1).f5) ((rd_T50 l0 x5_1).f6) ((rd_T50 l0 x5_1).f7) ((rd_T50 l0 x5_1).f8) ((rd_T50 l0 x5_1).f9) false _ A6.out).mono ?_
            rintro e w14 ⟨rfl, hb⟩
            refine ⟨_, rfl, ?_⟩
            have n0_ := Aside0.mk (blk_below (g := gb149) (o := .cells #[.int .i64 a1_0, .int .i64 a1_1] 36 (0, 0)) (by (with_reducible repeat (first | refine blk_drewN ?_ _ | refine blk_drew ?_ | refine blk_alloc ?_ _)); exact BK149.out) hb)
            have n1_ := Aside0.mk (below_step (by repeat (first | (with_reducible first | exact HB.out | apply below_alloc | apply pw_below_drewN | apply below_drew1 | refine below_set ?_ GE149.out) | exact HB.out)) hb)
            clear BK149; clear HB
            have BK149 := n0_
            have HB := n1_
            clear n0_ n1_
            (try clear hb)
            (try clear hb2)
            (try clear hk)
            (try clear hi)
            refine hK.out _ _ ⟨((HB.out.cell (World.block_lt_of_cell? w _ hw150_0)).trans hw150_0), ((HB.out.cell (World.block_lt_of_cell? w _ hw150_1)).trans hw150_1), ((HB.out.cell (World.block_lt_of_cell? w _ hw150_2)).trans hw150_2), ((HB.out.cell (World.block_lt_of_cell? w _ hw150_3)).trans hw150_3), ((HB.out.cell (World.block_lt_of_cell? w _ hw150_4)).trans hw150_4), ((HB.out.cell (World.block_lt_of_cell? w _ hw150_5)).trans hw150_5), ((HB.out.cell (World.block_lt_of_cell? w _ hw150_6)).trans hw150_6), ((HB.out.cell (World.block_lt_of_cell? w _ hw150_7)).trans hw150_7), ((HB.out.cell (World.block_lt_of_cell? w _ hw150_8)).trans hw150_8), ((HB.out.cell (World.block_lt_of_cell? w _ hw150_9)).trans hw150_9), ((HB.out.cell (World.block_lt_of_cell? w _ hw150_10)).trans hw150_10), ((HB.out.cell (World.block_lt_of_cell? w _ hw150_11)).trans hw150_11)⟩ (fun hHeld => ?_)
            clear hK K
            refine norm_ (a' := ?_) ?_ ?_
            rotate_left
            · show Act.put _ (some 16) _ = _
              simp only [Act.put, List.setIfInBounds_toArray, List.set_cons_zero, List.set_cons_succ, i64_w, i32_w]
              rfl
            refine pure_ (i := 5) (N := some 17) (v := ?_) (a' := ?_) #[true, true, true, true, true, true, false, false, false, false, false, false, false, false] rfl rfl (any_of HT_.out (by kernel_rfl)) (fun _ _ _ h => h) (Or.inl ⟨by rfl, ?_⟩) ?_ ?_
            rotate_left
            · intro w'
              go_simp
              with_reducible rfl
            rotate_left
            · simp only [Act.put, List.setIfInBounds_toArray, List.set_cons_zero, List.set_cons_succ, i64_w, i32_w]
              rfl
            refine pure_ (i := 6) (N := some 18) (v := undef) (a' := ?_) #[true, true, true, true, true, true, true, false, false, false, false, false, false, false] rfl rfl (any_of HT_.out (by kernel_rfl)) (fun _ _ _ h => h) (Or.inr ⟨by rfl, rfl⟩) ?_ ?_
            rotate_left
            · simp only [Act.put, List.setIfInBounds_toArray, List.set_cons_zero, List.set_cons_succ, i64_w, i32_w]
              rfl
            refine pure_ (i := 7) (N := some 19) (v := undef) (a' := ?_) #[true, true, true, true, true, true, true, true, false, false, false, false, false, false] rfl rfl (any_of HT_.out (by kernel_rfl)) (fun _ _ _ h => h) (Or.inr ⟨by rfl, rfl⟩) ?_ ?_
            rotate_left
            · simp only [Act.put, List.setIfInBounds_toArray, List.set_cons_zero, List.set_cons_succ, i64_w, i32_w]
              rfl
            refine pure_ (i := 8) (N := some 20) (v := undef) (a' := ?_) #[true, true, true, true, true, true, true, true, true, false, false, false, false, false] rfl rfl (any_of HT_.out (by kernel_rfl)) (fun _ _ _ h => h) (Or.inr ⟨by rfl, rfl⟩) ?_ ?_
            rotate_left
            · simp only [Act.put, List.setIfInBounds_toArray, List.set_cons_zero, List.set_cons_succ, i64_w, i32_w]
              rfl
            refine pure_ (i := 9) (N := some 21) (v := undef) (a' := ?_) #[true, true, true, true, true, true, true, true, true, true, false, false, false, false] rfl rfl (any_of HT_.out (by kernel_rfl)) (fun _ _ _ h => h) (Or.inr ⟨by rfl, rfl⟩) ?_ ?_
            rotate_left
            · simp only [Act.put, List.setIfInBounds_toArray, List.set_cons_zero, List.set_cons_succ, i64_w, i32_w]
              rfl
            refine pure_ (i := 10) (N := some 22) (v := undef) (a' := ?_) #[true, true, true, true, true, true, true, true, true, true, true, false, false, false] rfl rfl (any_of HT_.out (by kernel_rfl)) (fun _ _ _ h => h) (Or.inr ⟨by rfl, rfl⟩) ?_ ?_
            rotate_left
            · simp only [Act.put, List.setIfInBounds_toArray, List.set_cons_zero, List.set_cons_succ, i64_w, i32_w]
              rfl
            refine pure_ (i := 11) (N := some 23) (v := undef) (a' := ?_) #[true, true, true, true, true, true, true, true, true, true, true, true, false, false] rfl rfl (any_of HT_.out (by kernel_rfl)) (fun _ _ _ h => h) (Or.inr ⟨by rfl, rfl⟩) ?_ ?_
            rotate_left
            · simp only [Act.put, List.setIfInBounds_toArray, List.set_cons_zero, List.set_cons_succ, i64_w, i32_w]
              rfl
            refine pure_ (i := 12) (N := some 24) (v := undef) (a' := ?_) #[true, true, true, true, true, true, true, true, true, true, true, true, true, false] rfl rfl (any_of HT_.out (by kernel_rfl)) (fun _ _ _ h => h) (Or.inr ⟨by rfl, rfl⟩) ?_ ?_
            rotate_left
            · simp only [Act.put, List.setIfInBounds_toArray, List.set_cons_zero, List.set_cons_succ, i64_w, i32_w]
              rfl
            refine pure_ (i := 13) (N := some 25) (v := ?_) (a' := ?_) #[true, true, true, true, true, true, true, true, true, true, true, true, true, true] rfl rfl (any_of HT_.out (by kernel_rfl)) (fun _ _ _ h => h) (Or.inl ⟨by rfl, ?_⟩) ?_ ?_
            rotate_left
            · intro w'
              go_simp
              with_reducible rfl
            rotate_left
            · simp only [Act.put, List.setIfInBounds_toArray, List.set_cons_zero, List.set_cons_succ, i64_w, i32_w]
              rfl
            refine done_ (done_of HT_.out (by kernel_rfl)) ?_
            try go_wp2
            go_roundg k1
            case measure => have := HK1.out; omega
            case rel => exact ⟨(wrap64 (x5_1 + 1)), (by first | rfl | (simp; done) | (simp [*]; done)), H', ⟨by have := HK1.out; omega⟩, ⟨by (with_reducible repeat (first | refine blk_drewN ?_ _ | refine blk_drew ?_ | refine blk_alloc ?_ _)); exact BK149.out⟩, ⟨by repeat (first | (with_reducible first | exact HB.out | apply below_alloc | apply pw_below_drewN | apply below_drew1 | refine below_set ?_ GE149.out) | exact HB.out)⟩⟩
        · rw [if_neg c5] at H
          exact absurd H (by simp)
      · rw [if_neg c4] at H
        have c4b0 : decide (x5_1 < (l0.length : Int)) = false := decide_eq_false c4
        clear c4
        obtain rfl := Option.some.inj H
        go_wp2
        go_ret
        exact ⟨by first | rfl | (simp [errW_none, errW_some] <;> rfl) | (simp [*, errW_none, errW_some] <;> rfl), by repeat (first | (with_reducible first | exact HB.out | apply below_alloc | apply pw_below_drewN | apply below_drew1 | refine below_set ?_ GE149.out) | exact HB.out)⟩

end Go.Proofs.Ythniclbmpeklmaa.KAud
