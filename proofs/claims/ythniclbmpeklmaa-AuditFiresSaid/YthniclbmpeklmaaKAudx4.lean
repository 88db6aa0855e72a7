/- What is proved: each Go function named here comes to what the plain function of its name comes to, whatever the memory; no conditions. Written by a program of this session (kp.py) over the kit's print. -/
import Derived.Test.YthniclbmpeklmaaKAudx0
import Derived.Test.YthniclbmpeklmaaKAudx2
import Derived.Test.YthniclbmpeklmaaKAudx3
namespace Go.Proofs.Ythniclbmpeklmaa.KAud
open Go.RowKit Go.Proofs.YthniclbmpeklmaaW.PrintWords Go.Proofs.YthniclbmpeklmaaW.PrintLast Go.Proofs.YthniclbmpeklmaaW.PrintMore
attribute [local go_sem] max2_int min2_int max_two min_two max_three min_three max_four min_four   -- for this text's walks alone
set_option linter.unusedVariables false
set_option linter.unusedSimpArgs false

/-! ### knellref14_Early: function 20 -/
def knellref14_Early.l0 : Nat → List (S50) → Int → Option (Int)
  | 0, _, _ => none
  | k + 1, x0, x3 => if x3 < (x0.length : Int) then (if 0 ≤ x3 then (if ((rd_T50 x0 x3).f0) = 4 then ((knellref14_Made.f k x0 ((rd_T50 x0 x3).f3.f0) ((rd_T50 x0 x3).f3.f1)).bind fun t158 => (if t158 < 0 then (some x3) else (if t158 > x3 then (some x3) else (if 0 ≤ t158 then (if t158 < (x0.length : Int) then (if ((rd_T50 x0 t158).f5) > ((rd_T50 x0 x3).f5) then (some x3) else (knellref14_Early.l0 k x0 (wrap64 (x3 + 1)))) else (none)) else (none))))) else (knellref14_Early.l0 k x0 (wrap64 (x3 + 1)))) else (none)) else (some (-1))
def knellref14_Early.f (k : Nat) (l0 : List (S50)) : Option (Int) := (knellref14_Clean.f k l0).bind fun t153 => (knellref14_Early.l0 k t153 0)
theorem knellref14_Early.mono_l : ∀ k, (∀ y0 y1, LeO (knellref14_Early.l0 k y0 y1) (knellref14_Early.l0 (k + 1) y0 y1))
  | 0 => fun _ _ r h => by simp [knellref14_Early.l0] at h
  | k + 1 => by
    have ih0 := knellref14_Early.mono_l k
    · intro y0 y1
      unfold knellref14_Early.l0
      repeat' first
      | (with_reducible exact ih0 _ _)
      | (with_reducible exact knellref14_Clean.mono _ _)
      | (with_reducible exact knellref14_Made.mono _ _ _ _)
      | (with_reducible exact LeO.refl _)
      | (with_reducible exact LeO.none _)
      | (with_reducible refine LeO.ite ?_ ?_)
      | (with_reducible refine LeO.bind ?_ (fun _ => ?_))
      | exact ih0 _ _
      | exact knellref14_Clean.mono _ _
      | exact knellref14_Made.mono _ _ _ _
      | exact LeO.none _
      | refine LeO.ite ?_ ?_
      | refine LeO.bind ?_ (fun _ => ?_)
theorem knellref14_Early.mono : ∀ a0 k, LeO (knellref14_Early.f k a0) (knellref14_Early.f (k + 1) a0) := by
  intro a0 k
  have ih0 := knellref14_Early.mono_l k
  unfold knellref14_Early.f
  repeat' first
      | (with_reducible exact ih0 _ _)
      | (with_reducible exact knellref14_Clean.mono _ _)
      | (with_reducible exact knellref14_Made.mono _ _ _ _)
      | (with_reducible exact LeO.refl _)
      | (with_reducible exact LeO.none _)
      | (with_reducible refine LeO.ite ?_ ?_)
      | (with_reducible refine LeO.bind ?_ (fun _ => ?_))
      | exact ih0 _ _
      | exact knellref14_Clean.mono _ _
      | exact knellref14_Made.mono _ _ _ _
      | exact LeO.none _
      | refine LeO.ite ?_ ?_
      | refine LeO.bind ?_ (fun _ => ?_)
set_option maxHeartbeats 8000000 in
set_option maxRecDepth 100000 in
theorem knellref14_Early.calls (k : Nat) (A0 : Option Addr) (c0 : Nat) (l0 : List (S50)) (r : Int) (w : World) (hr0 : Kd.C k50 w A0 l0.length l0) (hc0 : l0.length ≤ c0) (h : knellref14_Early.f k l0 = some r) :
    Calls Try.prog 20 #[.slice A0 l0.length c0] w fun e w' => e = .returned (.int .i64 r) ∧ Below w.heap.size w w' := by
  have hu36 := Try.underlying36
  have HR0 := Aside0.mk hr0
  have HC0 := Aside0.mk hc0
  clear hr0 hc0
  have HB := Aside0.mk (Below.refl w.heap.size w)
  have H : ((knellref14_Clean.f k l0).bind fun t153 => (knellref14_Early.l0 k t153 0)) = some r := h
  clear h
  replace H := Option.bind_eq_some_iff.mp H
  obtain ⟨t153, A20, H⟩ := H
  replace H : (knellref14_Early.l0 k t153 0) = some r := H
  have A2 := Aside0.mk A20
  clear A20
  have H' := Aside0.mk H
  clear H
  go_enter Try.func20, Try.ntmps20
  go_wp2_with (first | (go_at_call 50; (with_reducible refine (knellref14_Clean.calls k _ _ l0 t153 _ ?side1 ?side2 A2.out).mono ?_); (case side1 => repeat (first | exact HR0.out | (with_reducible refine Kd.C_alloc ?_ _) | (with_reducible refine Kd.C_drewN ?_ _) | (with_reducible refine Kd.C_drew ?_))); (case side2 => exact HC0.out); rintro e w3 ⟨v154, rfl, ho0, hb⟩; have n0_ := Aside0.mk (Kd.R_lower ho0 (below_size (by repeat (first | (with_reducible first | exact HB.out | apply below_alloc | apply pw_below_drewN | apply below_drew1) | exact HB.out)))); have n1_ := Aside0.mk (below_step (by repeat (first | (with_reducible first | exact HB.out | apply below_alloc | apply pw_below_drewN | apply below_drew1) | exact HB.out)) hb); clear HB; have HO155 := n0_; have HB := n1_; clear n0_ n1_; (try clear hb); (try clear hb2); (try clear hk); (try clear hi); (try clear ho0)))
  repeat (go_quiet (first | (go_at_call 50; (with_reducible refine (knellref14_Clean.calls k _ _ l0 t153 _ ?side1 ?side2 A2.out).mono ?_); (case side1 => repeat (first | exact HR0.out | (with_reducible refine Kd.C_alloc ?_ _) | (with_reducible refine Kd.C_drewN ?_ _) | (with_reducible refine Kd.C_drew ?_))); (case side2 => exact HC0.out); rintro e w3 ⟨v154, rfl, ho0, hb⟩; have n0_ := Aside0.mk (Kd.R_lower ho0 (below_size (by repeat (first | (with_reducible first | exact HB.out | apply below_alloc | apply pw_below_drewN | apply below_drew1) | exact HB.out)))); have n1_ := Aside0.mk (below_step (by repeat (first | (with_reducible first | exact HB.out | apply below_alloc | apply pw_below_drewN | apply below_drew1) | exact HB.out)) hb); clear HB; have HO155 := n0_; have HB := n1_; clear n0_ n1_; (try clear hb); (try clear hb2); (try clear hk); (try clear hi); (try clear ho0))); try go_wp2_with (first | (go_at_call 50; (with_reducible refine (knellref14_Clean.calls k _ _ l0 t153 _ ?side1 ?side2 A2.out).mono ?_); (case side1 => repeat (first | exact HR0.out | (with_reducible refine Kd.C_alloc ?_ _) | (with_reducible refine Kd.C_drewN ?_ _) | (with_reducible refine Kd.C_drew ?_))); (case side2 => exact HC0.out); rintro e w3 ⟨v154, rfl, ho0, hb⟩; have n0_ := Aside0.mk (Kd.R_lower ho0 (below_size (by repeat (first | (with_reducible first | exact HB.out | apply below_alloc | apply pw_below_drewN | apply below_drew1) | exact HB.out)))); have n1_ := Aside0.mk (below_step (by repeat (first | (with_reducible first | exact HB.out | apply below_alloc | apply pw_below_drewN | apply below_drew1) | exact HB.out)) hb); clear HB; have HO155 := n0_; have HB := n1_; clear n0_ n1_; (try clear hb); (try clear hb2); (try clear hk); (try clear hi); (try clear ho0))))
  go_loopg [3] k (fun kq v3 w' => ∃ (x3_1 : Int), v3 = .int .i64 x3_1 ∧ Aside0 (knellref14_Early.l0 kq t153 x3_1 = some r) ∧ Aside0 (kq ≤ k) ∧ Aside0 (Kd.R k50 50 w' w.heap.size (fun _ => True) v154 t153) ∧ Aside0 (Below w.heap.size w w'))
  case atStart => exact ⟨(0), (by first | rfl | (simp; done) | (simp [*]; done)), H', ⟨Nat.le_refl _⟩, ⟨by (with_reducible repeat (first | apply Kd.R_alloc | apply Kd.R_drewN | apply Kd.R_drew)); exact HO155.out⟩, ⟨by repeat (first | (with_reducible first | exact HB.out | apply below_alloc | apply pw_below_drewN | apply below_drew1) | exact HB.out)⟩⟩
  case round =>
    clear H'
    (try clear c2); (try clear p2)
    obtain ⟨x3_1, rfl, HA, HK1, HO_0, HB⟩ := hrel
    cases gk with
    | zero => exact absurd HA.out (by simp [knellref14_Early.l0])
    | succ k1 =>
      have H := HA.out
      clear HA
      simp only [knellref14_Early.l0] at H
      by_cases c4 : x3_1 < (t153.length : Int)
      · rw [if_pos c4] at H
        have c4b0 : decide (x3_1 < (t153.length : Int)) = true := decide_eq_true c4
        clear c4
        by_cases c5 : 0 ≤ x3_1
        · rw [if_pos c5] at H
          have c5b0 : decide (0 ≤ x3_1) = true := decide_eq_true c5
          clear c5
          by_cases c6 : ((rd_T50 t153 x3_1).f0) = 4
          · rw [if_pos c6] at H
            have c6b0 : (((rd_T50 t153 x3_1).f0) == 4) = true := beq_iff_eq.mpr c6
            have c6b1 : (((rd_T50 t153 x3_1).f0) != 4) = false := bne_eq_false_iff_eq.mpr c6
            clear c6
            replace H := Option.bind_eq_some_iff.mp H
            obtain ⟨t158, A70, H⟩ := H
            replace H : (if t158 < 0 then (some x3_1) else (if t158 > x3_1 then (some x3_1) else (if 0 ≤ t158 then (if t158 < (t153.length : Int) then (if ((rd_T50 t153 t158).f5) > ((rd_T50 t153 x3_1).f5) then (some x3_1) else (knellref14_Early.l0 k1 t153 (wrap64 (x3_1 + 1)))) else (none)) else (none)))) = some r := H
            have A7 := Aside0.mk A70
            clear A70
            by_cases c8 : t158 < 0
            · rw [if_pos c8] at H
              have c8b0 : decide (t158 < 0) = true := decide_eq_true c8
              clear c8
              obtain rfl := Option.some.inj H
              obtain ⟨Ao9, co9, eo9⟩ := Kd.R_slice HO_0.out
              subst eo9
              have p156 : 0 ≤ (x3_1 : Int) := of_decide_eq_true (by first | (with_reducible assumption) | assumption)
              have q156 : x3_1 < (t153.length : Int) := of_decide_eq_true (by first | (with_reducible assumption) | assumption)
              obtain ⟨ad156, e156, hx156_0, hx156_1, hx156_2, hx156_3, hx156_4, hx156_5, hx156_6, hx156_7, hx156_8, hx156_9, hx156_10, hx156_11⟩ := at_T50 (Kd.R_reads' HO_0.out).2.2 x3_1 p156 q156
              cases e156
              replace p156 := eq_true p156
              replace q156 := eq_true q156
              have p157 : 0 ≤ (x3_1 : Int) := of_decide_eq_true (by first | (with_reducible assumption) | assumption)
              have q157 : x3_1 < (t153.length : Int) := of_decide_eq_true (by first | (with_reducible assumption) | assumption)
              obtain ⟨ad157, e157, hx157_0, hx157_1, hx157_2, hx157_3, hx157_4, hx157_5, hx157_6, hx157_7, hx157_8, hx157_9, hx157_10, hx157_11⟩ := at_T50 (Kd.R_reads' HO_0.out).2.2 x3_1 p157 q157
              obtain rfl : ad156 = ad157 := (by injection e157)
              replace p157 := eq_true p157
              replace q157 := eq_true q157
              go_wp2_with (first | (go_at_call 52; (with_reducible refine (knellref14_Made.calls k1 _ _ t153 ((rd_T50 t153 x3_1).f3.f0) ((rd_T50 t153 x3_1).f3.f1) t158 _ ?side1 ?side2 A7.out).mono ?_); (case side1 => repeat (first | exact (Kd.R_reads' HO_0.out).2.2 | (with_reducible refine Kd.C_alloc ?_ _) | (with_reducible refine Kd.C_drewN ?_ _) | (with_reducible refine Kd.C_drew ?_))); (case side2 => exact (Kd.R_reads' HO_0.out).2.1); rintro e w10 ⟨rfl, hb⟩; have n0_ := Aside0.mk (Kd.R_below (by (with_reducible repeat (first | apply Kd.R_alloc | apply Kd.R_drewN | apply Kd.R_drew)); exact HO_0.out) hb); have n1_ := Aside0.mk (below_step (by repeat (first | (with_reducible first | exact HB.out | apply below_alloc | apply pw_below_drewN | apply below_drew1) | exact HB.out)) hb); clear HO_0; clear HB; have HO_0 := n0_; have HB := n1_; clear n0_ n1_; (try clear hb); (try clear hb2); (try clear hk); (try clear hi)))
              repeat (go_quiet (first | (go_at_call 52; (with_reducible refine (knellref14_Made.calls k1 _ _ t153 ((rd_T50 t153 x3_1).f3.f0) ((rd_T50 t153 x3_1).f3.f1) t158 _ ?side1 ?side2 A7.out).mono ?_); (case side1 => repeat (first | exact (Kd.R_reads' HO_0.out).2.2 | (with_reducible refine Kd.C_alloc ?_ _) | (with_reducible refine Kd.C_drewN ?_ _) | (with_reducible refine Kd.C_drew ?_))); (case side2 => exact (Kd.R_reads' HO_0.out).2.1); rintro e w10 ⟨rfl, hb⟩; have n0_ := Aside0.mk (Kd.R_below (by (with_reducible repeat (first | apply Kd.R_alloc | apply Kd.R_drewN | apply Kd.R_drew)); exact HO_0.out) hb); have n1_ := Aside0.mk (below_step (by repeat (first | (with_reducible first | exact HB.out | apply below_alloc | apply pw_below_drewN | apply below_drew1) | exact HB.out)) hb); clear HO_0; clear HB; have HO_0 := n0_; have HB := n1_; clear n0_ n1_; (try clear hb); (try clear hb2); (try clear hk); (try clear hi))); try go_wp2_with (first | (go_at_call 52; (with_reducible refine (knellref14_Made.calls k1 _ _ t153 ((rd_T50 t153 x3_1).f3.f0) ((rd_T50 t153 x3_1).f3.f1) t158 _ ?side1 ?side2 A7.out).mono ?_); (case side1 => repeat (first | exact (Kd.R_reads' HO_0.out).2.2 | (with_reducible refine Kd.C_alloc ?_ _) | (with_reducible refine Kd.C_drewN ?_ _) | (with_reducible refine Kd.C_drew ?_))); (case side2 => exact (Kd.R_reads' HO_0.out).2.1); rintro e w10 ⟨rfl, hb⟩; have n0_ := Aside0.mk (Kd.R_below (by (with_reducible repeat (first | apply Kd.R_alloc | apply Kd.R_drewN | apply Kd.R_drew)); exact HO_0.out) hb); have n1_ := Aside0.mk (below_step (by repeat (first | (with_reducible first | exact HB.out | apply below_alloc | apply pw_below_drewN | apply below_drew1) | exact HB.out)) hb); clear HO_0; clear HB; have HO_0 := n0_; have HB := n1_; clear n0_ n1_; (try clear hb); (try clear hb2); (try clear hk); (try clear hi))))
              go_ret
              exact ⟨by first | rfl | (simp [errW_none, errW_some] <;> rfl) | (simp [*, errW_none, errW_some] <;> rfl), by repeat (first | (with_reducible first | exact HB.out | apply below_alloc | apply pw_below_drewN | apply below_drew1) | exact HB.out)⟩
            · rw [if_neg c8] at H
              have c8b0 : decide (t158 < 0) = false := decide_eq_false c8
              clear c8
              by_cases c11 : t158 > x3_1
              · rw [if_pos c11] at H
                have c11b0 : decide (x3_1 < t158) = true := decide_eq_true c11
                clear c11
                obtain rfl := Option.some.inj H
                obtain ⟨Ao12, co12, eo12⟩ := Kd.R_slice HO_0.out
                subst eo12
                have p156 : 0 ≤ (x3_1 : Int) := of_decide_eq_true (by first | (with_reducible assumption) | assumption)
                have q156 : x3_1 < (t153.length : Int) := of_decide_eq_true (by first | (with_reducible assumption) | assumption)
                obtain ⟨ad156, e156, hx156_0, hx156_1, hx156_2, hx156_3, hx156_4, hx156_5, hx156_6, hx156_7, hx156_8, hx156_9, hx156_10, hx156_11⟩ := at_T50 (Kd.R_reads' HO_0.out).2.2 x3_1 p156 q156
                cases e156
                replace p156 := eq_true p156
                replace q156 := eq_true q156
                have p157 : 0 ≤ (x3_1 : Int) := of_decide_eq_true (by first | (with_reducible assumption) | assumption)
                have q157 : x3_1 < (t153.length : Int) := of_decide_eq_true (by first | (with_reducible assumption) | assumption)
                obtain ⟨ad157, e157, hx157_0, hx157_1, hx157_2, hx157_3, hx157_4, hx157_5, hx157_6, hx157_7, hx157_8, hx157_9, hx157_10, hx157_11⟩ := at_T50 (Kd.R_reads' HO_0.out).2.2 x3_1 p157 q157
                obtain rfl : ad156 = ad157 := (by injection e157)
                replace p157 := eq_true p157
                replace q157 := eq_true q157
                go_wp2_with (first | (go_at_call 52; (with_reducible refine (knellref14_Made.calls k1 _ _ t153 ((rd_T50 t153 x3_1).f3.f0) ((rd_T50 t153 x3_1).f3.f1) t158 _ ?side1 ?side2 A7.out).mono ?_); (case side1 => repeat (first | exact (Kd.R_reads' HO_0.out).2.2 | (with_reducible refine Kd.C_alloc ?_ _) | (with_reducible refine Kd.C_drewN ?_ _) | (with_reducible refine Kd.C_drew ?_))); (case side2 => exact (Kd.R_reads' HO_0.out).2.1); rintro e w13 ⟨rfl, hb⟩; have n0_ := Aside0.mk (Kd.R_below (by (with_reducible repeat (first | apply Kd.R_alloc | apply Kd.R_drewN | apply Kd.R_drew)); exact HO_0.out) hb); have n1_ := Aside0.mk (below_step (by repeat (first | (with_reducible first | exact HB.out | apply below_alloc | apply pw_below_drewN | apply below_drew1) | exact HB.out)) hb); clear HO_0; clear HB; have HO_0 := n0_; have HB := n1_; clear n0_ n1_; (try clear hb); (try clear hb2); (try clear hk); (try clear hi)))
                repeat (go_quiet (first | (go_at_call 52; (with_reducible refine (knellref14_Made.calls k1 _ _ t153 ((rd_T50 t153 x3_1).f3.f0) ((rd_T50 t153 x3_1).f3.f1) t158 _ ?side1 ?side2 A7.out).mono ?_); (case side1 => repeat (first | exact (Kd.R_reads' HO_0.out).2.2 | (with_reducible refine Kd.C_alloc ?_ _) | (with_reducible refine Kd.C_drewN ?_ _) | (with_reducible refine Kd.C_drew ?_))); (case side2 => exact (Kd.R_reads' HO_0.out).2.1); rintro e w13 ⟨rfl, hb⟩; have n0_ := Aside0.mk (Kd.R_below (by (with_reducible repeat (first | apply Kd.R_alloc | apply Kd.R_drewN | apply Kd.R_drew)); exact HO_0.out) hb); have n1_ := Aside0.mk (below_step (by repeat (first | (with_reducible first | exact HB.out | apply below_alloc | apply pw_below_drewN | apply below_drew1) | exact HB.out)) hb); clear HO_0; clear HB; have HO_0 := n0_; have HB := n1_; clear n0_ n1_; (try clear hb); (try clear hb2); (try clear hk); (try clear hi))); try go_wp2_with (first | (go_at_call 52; (with_reducible refine (knellref14_Made.calls k1 _ _ t153 ((rd_T50 t153 x3_1).f3.f0) ((rd_T50 t153 x3_1).f3.f1) t158 _ ?side1 ?side2 A7.out).mono ?_); (case side1 => repeat (first | exact (Kd.R_reads' HO_0.out).2.2 | (with_reducible refine Kd.C_alloc ?_ _) | (with_reducible refine Kd.C_drewN ?_ _) | (with_reducible refine Kd.C_drew ?_))); (case side2 => exact (Kd.R_reads' HO_0.out).2.1); rintro e w13 ⟨rfl, hb⟩; have n0_ := Aside0.mk (Kd.R_below (by (with_reducible repeat (first | apply Kd.R_alloc | apply Kd.R_drewN | apply Kd.R_drew)); exact HO_0.out) hb); have n1_ := Aside0.mk (below_step (by repeat (first | (with_reducible first | exact HB.out | apply below_alloc | apply pw_below_drewN | apply below_drew1) | exact HB.out)) hb); clear HO_0; clear HB; have HO_0 := n0_; have HB := n1_; clear n0_ n1_; (try clear hb); (try clear hb2); (try clear hk); (try clear hi))))
                go_ret
                exact ⟨by first | rfl | (simp [errW_none, errW_some] <;> rfl) | (simp [*, errW_none, errW_some] <;> rfl), by repeat (first | (with_reducible first | exact HB.out | apply below_alloc | apply pw_below_drewN | apply below_drew1) | exact HB.out)⟩
              · rw [if_neg c11] at H
                have c11b0 : decide (x3_1 < t158) = false := decide_eq_false c11
                clear c11
                by_cases c14 : 0 ≤ t158
                · rw [if_pos c14] at H
                  have c14b0 : decide (0 ≤ t158) = true := decide_eq_true c14
                  clear c14
                  by_cases c15 : t158 < (t153.length : Int)
                  · rw [if_pos c15] at H
                    have c15b0 : decide (t158 < (t153.length : Int)) = true := decide_eq_true c15
                    clear c15
                    by_cases c16 : ((rd_T50 t153 t158).f5) > ((rd_T50 t153 x3_1).f5)
                    · rw [if_pos c16] at H
                      have c16b0 : decide (((rd_T50 t153 x3_1).f5) < ((rd_T50 t153 t158).f5)) = true := decide_eq_true c16
                      clear c16
                      obtain rfl := Option.some.inj H
                      obtain ⟨Ao17, co17, eo17⟩ := Kd.R_slice HO_0.out
                      subst eo17
                      have p156 : 0 ≤ (x3_1 : Int) := of_decide_eq_true (by first | (with_reducible assumption) | assumption)
                      have q156 : x3_1 < (t153.length : Int) := of_decide_eq_true (by first | (with_reducible assumption) | assumption)
                      obtain ⟨ad156, e156, hx156_0, hx156_1, hx156_2, hx156_3, hx156_4, hx156_5, hx156_6, hx156_7, hx156_8, hx156_9, hx156_10, hx156_11⟩ := at_T50 (Kd.R_reads' HO_0.out).2.2 x3_1 p156 q156
                      cases e156
                      replace p156 := eq_true p156
                      replace q156 := eq_true q156
                      have p157 : 0 ≤ (x3_1 : Int) := of_decide_eq_true (by first | (with_reducible assumption) | assumption)
                      have q157 : x3_1 < (t153.length : Int) := of_decide_eq_true (by first | (with_reducible assumption) | assumption)
                      obtain ⟨ad157, e157, hx157_0, hx157_1, hx157_2, hx157_3, hx157_4, hx157_5, hx157_6, hx157_7, hx157_8, hx157_9, hx157_10, hx157_11⟩ := at_T50 (Kd.R_reads' HO_0.out).2.2 x3_1 p157 q157
                      obtain rfl : ad156 = ad157 := (by injection e157)
                      replace p157 := eq_true p157
                      replace q157 := eq_true q157
                      go_wp2_with (first | (go_at_call 52; (with_reducible refine (knellref14_Made.calls k1 _ _ t153 ((rd_T50 t153 x3_1).f3.f0) ((rd_T50 t153 x3_1).f3.f1) t158 _ ?side1 ?side2 A7.out).mono ?_); (case side1 => repeat (first | exact (Kd.R_reads' HO_0.out).2.2 | (with_reducible refine Kd.C_alloc ?_ _) | (with_reducible refine Kd.C_drewN ?_ _) | (with_reducible refine Kd.C_drew ?_))); (case side2 => exact (Kd.R_reads' HO_0.out).2.1); rintro e w18 ⟨rfl, hb⟩; have n0_ := Aside0.mk (Kd.R_below (by (with_reducible repeat (first | apply Kd.R_alloc | apply Kd.R_drewN | apply Kd.R_drew)); exact HO_0.out) hb); have n1_ := Aside0.mk (below_step (by repeat (first | (with_reducible first | exact HB.out | apply below_alloc | apply pw_below_drewN | apply below_drew1) | exact HB.out)) hb); clear HO_0; clear HB; have HO_0 := n0_; have HB := n1_; clear n0_ n1_; (try clear hb); (try clear hb2); (try clear hk); (try clear hi); have p159 : 0 ≤ (t158 : Int) := of_decide_eq_true (by first | (with_reducible assumption) | assumption); have q159 : t158 < (t153.length : Int) := of_decide_eq_true (by first | (with_reducible assumption) | assumption); obtain ⟨ad159, e159, hx159_0, hx159_1, hx159_2, hx159_3, hx159_4, hx159_5, hx159_6, hx159_7, hx159_8, hx159_9, hx159_10, hx159_11⟩ := at_T50 (Kd.R_reads' HO_0.out).2.2 t158 p159 q159; obtain rfl : ad156 = ad159 := (by injection e159); replace p159 := eq_true p159; replace q159 := eq_true q159; have p160 : 0 ≤ (x3_1 : Int) := of_decide_eq_true (by first | (with_reducible assumption) | assumption); have q160 : x3_1 < (t153.length : Int) := of_decide_eq_true (by first | (with_reducible assumption) | assumption); obtain ⟨ad160, e160, hx160_0, hx160_1, hx160_2, hx160_3, hx160_4, hx160_5, hx160_6, hx160_7, hx160_8, hx160_9, hx160_10, hx160_11⟩ := at_T50 (Kd.R_reads' HO_0.out).2.2 x3_1 p160 q160; obtain rfl : ad156 = ad160 := (by injection e160); replace p160 := eq_true p160; replace q160 := eq_true q160))
                      repeat (go_quiet (first | (go_at_call 52; (with_reducible refine (knellref14_Made.calls k1 _ _ t153 ((rd_T50 t153 x3_1).f3.f0) ((rd_T50 t153 x3_1).f3.f1) t158 _ ?side1 ?side2 A7.out).mono ?_); (case side1 => repeat (first | exact (Kd.R_reads' HO_0.out).2.2 | (with_reducible refine Kd.C_alloc ?_ _) | (with_reducible refine Kd.C_drewN ?_ _) | (with_reducible refine Kd.C_drew ?_))); (case side2 => exact (Kd.R_reads' HO_0.out).2.1); rintro e w18 ⟨rfl, hb⟩; have n0_ := Aside0.mk (Kd.R_below (by (with_reducible repeat (first | apply Kd.R_alloc | apply Kd.R_drewN | apply Kd.R_drew)); exact HO_0.out) hb); have n1_ := Aside0.mk (below_step (by repeat (first | (with_reducible first | exact HB.out | apply below_alloc | apply pw_below_drewN | apply below_drew1) | exact HB.out)) hb); clear HO_0; clear HB; have HO_0 := n0_; have HB := n1_; clear n0_ n1_; (try clear hb); (try clear hb2); (try clear hk); (try clear hi); have p159 : 0 ≤ (t158 : Int) := of_decide_eq_true (by first | (with_reducible assumption) | assumption); have q159 : t158 < (t153.length : Int) := of_decide_eq_true (by first | (with_reducible assumption) | assumption); obtain ⟨ad159, e159, hx159_0, hx159_1, hx159_2, hx159_3, hx159_4, hx159_5, hx159_6, hx159_7, hx159_8, hx159_9, hx159_10, hx159_11⟩ := at_T50 (Kd.R_reads' HO_0.out).2.2 t158 p159 q159; obtain rfl : ad156 = ad159 := (by injection e159); replace p159 := eq_true p159; replace q159 := eq_true q159; have p160 : 0 ≤ (x3_1 : Int) := of_decide_eq_true (by first | (with_reducible assumption) | assumption); have q160 : x3_1 < (t153.length : Int) := of_decide_eq_true (by first | (with_reducible assumption) | assumption); obtain ⟨ad160, e160, hx160_0, hx160_1, hx160_2, hx160_3, hx160_4, hx160_5, hx160_6, hx160_7, hx160_8, hx160_9, hx160_10, hx160_11⟩ := at_T50 (Kd.R_reads' HO_0.out).2.2 x3_1 p160 q160; obtain rfl : ad156 = ad160 := (by injection e160); replace p160 := eq_true p160; replace q160 := eq_true q160)); try go_wp2_with (first | (go_at_call 52; (with_reducible refine (knellref14_Made.calls k1 _ _ t153 ((rd_T50 t153 x3_1).f3.f0) ((rd_T50 t153 x3_1).f3.f1) t158 _ ?side1 ?side2 A7.out).mono ?_); (case side1 => repeat (first | exact (Kd.R_reads' HO_0.out).2.2 | (with_reducible refine Kd.C_alloc ?_ _) | (with_reducible refine Kd.C_drewN ?_ _) | (with_reducible refine Kd.C_drew ?_))); (case side2 => exact (Kd.R_reads' HO_0.out).2.1); rintro e w18 ⟨rfl, hb⟩; have n0_ := Aside0.mk (Kd.R_below (by (with_reducible repeat (first | apply Kd.R_alloc | apply Kd.R_drewN | apply Kd.R_drew)); exact HO_0.out) hb); have n1_ := Aside0.mk (below_step (by repeat (first | (with_reducible first | exact HB.out | apply below_alloc | apply pw_below_drewN | apply below_drew1) | exact HB.out)) hb); clear HO_0; clear HB; have HO_0 := n0_; have HB := n1_; clear n0_ n1_; (try clear hb); (try clear hb2); (try clear hk); (try clear hi); have p159 : 0 ≤ (t158 : Int) := of_decide_eq_true (by first | (with_reducible assumption) | assumption); have q159 : t158 < (t153.length : Int) := of_decide_eq_true (by first | (with_reducible assumption) | assumption); obtain ⟨ad159, e159, hx159_0, hx159_1, hx159_2, hx159_3, hx159_4, hx159_5, hx159_6, hx159_7, hx159_8, hx159_9, hx159_10, hx159_11⟩ := at_T50 (Kd.R_reads' HO_0.out).2.2 t158 p159 q159; obtain rfl : ad156 = ad159 := (by injection e159); replace p159 := eq_true p159; replace q159 := eq_true q159; have p160 : 0 ≤ (x3_1 : Int) := of_decide_eq_true (by first | (with_reducible assumption) | assumption); have q160 : x3_1 < (t153.length : Int) := of_decide_eq_true (by first | (with_reducible assumption) | assumption); obtain ⟨ad160, e160, hx160_0, hx160_1, hx160_2, hx160_3, hx160_4, hx160_5, hx160_6, hx160_7, hx160_8, hx160_9, hx160_10, hx160_11⟩ := at_T50 (Kd.R_reads' HO_0.out).2.2 x3_1 p160 q160; obtain rfl : ad156 = ad160 := (by injection e160); replace p160 := eq_true p160; replace q160 := eq_true q160)))
                      go_ret
                      exact ⟨by first | rfl | (simp [errW_none, errW_some] <;> rfl) | (simp [*, errW_none, errW_some] <;> rfl), by repeat (first | (with_reducible first | exact HB.out | apply below_alloc | apply pw_below_drewN | apply below_drew1) | exact HB.out)⟩
                    · rw [if_neg c16] at H
                      have c16b0 : decide (((rd_T50 t153 x3_1).f5) < ((rd_T50 t153 t158).f5)) = false := decide_eq_false c16
                      clear c16
                      have H' := Aside0.mk H
                      clear H
                      obtain ⟨Ao19, co19, eo19⟩ := Kd.R_slice HO_0.out
                      subst eo19
                      have p156 : 0 ≤ (x3_1 : Int) := of_decide_eq_true (by first | (with_reducible assumption) | assumption)
                      have q156 : x3_1 < (t153.length : Int) := of_decide_eq_true (by first | (with_reducible assumption) | assumption)
                      obtain ⟨ad156, e156, hx156_0, hx156_1, hx156_2, hx156_3, hx156_4, hx156_5, hx156_6, hx156_7, hx156_8, hx156_9, hx156_10, hx156_11⟩ := at_T50 (Kd.R_reads' HO_0.out).2.2 x3_1 p156 q156
                      cases e156
                      replace p156 := eq_true p156
                      replace q156 := eq_true q156
                      have p157 : 0 ≤ (x3_1 : Int) := of_decide_eq_true (by first | (with_reducible assumption) | assumption)
                      have q157 : x3_1 < (t153.length : Int) := of_decide_eq_true (by first | (with_reducible assumption) | assumption)
                      obtain ⟨ad157, e157, hx157_0, hx157_1, hx157_2, hx157_3, hx157_4, hx157_5, hx157_6, hx157_7, hx157_8, hx157_9, hx157_10, hx157_11⟩ := at_T50 (Kd.R_reads' HO_0.out).2.2 x3_1 p157 q157
                      obtain rfl : ad156 = ad157 := (by injection e157)
                      replace p157 := eq_true p157
                      replace q157 := eq_true q157
                      go_wp2_with (first | (go_at_call 52; (with_reducible refine (knellref14_Made.calls k1 _ _ t153 ((rd_T50 t153 x3_1).f3.f0) ((rd_T50 t153 x3_1).f3.f1) t158 _ ?side1 ?side2 A7.out).mono ?_); (case side1 => repeat (first | exact (Kd.R_reads' HO_0.out).2.2 | (with_reducible refine Kd.C_alloc ?_ _) | (with_reducible refine Kd.C_drewN ?_ _) | (with_reducible refine Kd.C_drew ?_))); (case side2 => exact (Kd.R_reads' HO_0.out).2.1); rintro e w20 ⟨rfl, hb⟩; have n0_ := Aside0.mk (Kd.R_below (by (with_reducible repeat (first | apply Kd.R_alloc | apply Kd.R_drewN | apply Kd.R_drew)); exact HO_0.out) hb); have n1_ := Aside0.mk (below_step (by repeat (first | (with_reducible first | exact HB.out | apply below_alloc | apply pw_below_drewN | apply below_drew1) | exact HB.out)) hb); clear HO_0; clear HB; have HO_0 := n0_; have HB := n1_; clear n0_ n1_; (try clear hb); (try clear hb2); (try clear hk); (try clear hi); have p159 : 0 ≤ (t158 : Int) := of_decide_eq_true (by first | (with_reducible assumption) | assumption); have q159 : t158 < (t153.length : Int) := of_decide_eq_true (by first | (with_reducible assumption) | assumption); obtain ⟨ad159, e159, hx159_0, hx159_1, hx159_2, hx159_3, hx159_4, hx159_5, hx159_6, hx159_7, hx159_8, hx159_9, hx159_10, hx159_11⟩ := at_T50 (Kd.R_reads' HO_0.out).2.2 t158 p159 q159; obtain rfl : ad156 = ad159 := (by injection e159); replace p159 := eq_true p159; replace q159 := eq_true q159; have p160 : 0 ≤ (x3_1 : Int) := of_decide_eq_true (by first | (with_reducible assumption) | assumption); have q160 : x3_1 < (t153.length : Int) := of_decide_eq_true (by first | (with_reducible assumption) | assumption); obtain ⟨ad160, e160, hx160_0, hx160_1, hx160_2, hx160_3, hx160_4, hx160_5, hx160_6, hx160_7, hx160_8, hx160_9, hx160_10, hx160_11⟩ := at_T50 (Kd.R_reads' HO_0.out).2.2 x3_1 p160 q160; obtain rfl : ad156 = ad160 := (by injection e160); replace p160 := eq_true p160; replace q160 := eq_true q160))
                      repeat (go_quiet (first | (go_at_call 52; (with_reducible refine (knellref14_Made.calls k1 _ _ t153 ((rd_T50 t153 x3_1).f3.f0) ((rd_T50 t153 x3_1).f3.f1) t158 _ ?side1 ?side2 A7.out).mono ?_); (case side1 => repeat (first | exact (Kd.R_reads' HO_0.out).2.2 | (with_reducible refine Kd.C_alloc ?_ _) | (with_reducible refine Kd.C_drewN ?_ _) | (with_reducible refine Kd.C_drew ?_))); (case side2 => exact (Kd.R_reads' HO_0.out).2.1); rintro e w20 ⟨rfl, hb⟩; have n0_ := Aside0.mk (Kd.R_below (by (with_reducible repeat (first | apply Kd.R_alloc | apply Kd.R_drewN | apply Kd.R_drew)); exact HO_0.out) hb); have n1_ := Aside0.mk (below_step (by repeat (first | (with_reducible first | exact HB.out | apply below_alloc | apply pw_below_drewN | apply below_drew1) | exact HB.out)) hb); clear HO_0; clear HB; have HO_0 := n0_; have HB := n1_; clear n0_ n1_; (try clear hb); (try clear hb2); (try clear hk); (try clear hi); have p159 : 0 ≤ (t158 : Int) := of_decide_eq_true (by first | (with_reducible assumption) | assumption); have q159 : t158 < (t153.length : Int) := of_decide_eq_true (by first | (with_reducible assumption) | assumption); obtain ⟨ad159, e159, hx159_0, hx159_1, hx159_2, hx159_3, hx159_4, hx159_5, hx159_6, hx159_7, hx159_8, hx159_9, hx159_10, hx159_11⟩ := at_T50 (Kd.R_reads' HO_0.out).2.2 t158 p159 q159; obtain rfl : ad156 = ad159 := (by injection e159); replace p159 := eq_true p159; replace q159 := eq_true q159; have p160 : 0 ≤ (x3_1 : Int) := of_decide_eq_true (by first | (with_reducible assumption) | assumption); have q160 : x3_1 < (t153.length : Int) := of_decide_eq_true (by first | (with_reducible assumption) | assumption); obtain ⟨ad160, e160, hx160_0, hx160_1, hx160_2, hx160_3, hx160_4, hx160_5, hx160_6, hx160_7, hx160_8, hx160_9, hx160_10, hx160_11⟩ := at_T50 (Kd.R_reads' HO_0.out).2.2 x3_1 p160 q160; obtain rfl : ad156 = ad160 := (by injection e160); replace p160 := eq_true p160; replace q160 := eq_true q160)); try go_wp2_with (first | (go_at_call 52; (with_reducible refine (knellref14_Made.calls k1 _ _ t153 ((rd_T50 t153 x3_1).f3.f0) ((rd_T50 t153 x3_1).f3.f1) t158 _ ?side1 ?side2 A7.out).mono ?_); (case side1 => repeat (first | exact (Kd.R_reads' HO_0.out).2.2 | (with_reducible refine Kd.C_alloc ?_ _) | (with_reducible refine Kd.C_drewN ?_ _) | (with_reducible refine Kd.C_drew ?_))); (case side2 => exact (Kd.R_reads' HO_0.out).2.1); rintro e w20 ⟨rfl, hb⟩; have n0_ := Aside0.mk (Kd.R_below (by (with_reducible repeat (first | apply Kd.R_alloc | apply Kd.R_drewN | apply Kd.R_drew)); exact HO_0.out) hb); have n1_ := Aside0.mk (below_step (by repeat (first | (with_reducible first | exact HB.out | apply below_alloc | apply pw_below_drewN | apply below_drew1) | exact HB.out)) hb); clear HO_0; clear HB; have HO_0 := n0_; have HB := n1_; clear n0_ n1_; (try clear hb); (try clear hb2); (try clear hk); (try clear hi); have p159 : 0 ≤ (t158 : Int) := of_decide_eq_true (by first | (with_reducible assumption) | assumption); have q159 : t158 < (t153.length : Int) := of_decide_eq_true (by first | (with_reducible assumption) | assumption); obtain ⟨ad159, e159, hx159_0, hx159_1, hx159_2, hx159_3, hx159_4, hx159_5, hx159_6, hx159_7, hx159_8, hx159_9, hx159_10, hx159_11⟩ := at_T50 (Kd.R_reads' HO_0.out).2.2 t158 p159 q159; obtain rfl : ad156 = ad159 := (by injection e159); replace p159 := eq_true p159; replace q159 := eq_true q159; have p160 : 0 ≤ (x3_1 : Int) := of_decide_eq_true (by first | (with_reducible assumption) | assumption); have q160 : x3_1 < (t153.length : Int) := of_decide_eq_true (by first | (with_reducible assumption) | assumption); obtain ⟨ad160, e160, hx160_0, hx160_1, hx160_2, hx160_3, hx160_4, hx160_5, hx160_6, hx160_7, hx160_8, hx160_9, hx160_10, hx160_11⟩ := at_T50 (Kd.R_reads' HO_0.out).2.2 x3_1 p160 q160; obtain rfl : ad156 = ad160 := (by injection e160); replace p160 := eq_true p160; replace q160 := eq_true q160)))
                      go_roundg k1
                      case measure => have := HK1.out; omega
                      case rel => exact ⟨(wrap64 (x3_1 + 1)), (by first | rfl | (simp; done) | (simp [*]; done)), H', ⟨by have := HK1.out; omega⟩, ⟨by (with_reducible repeat (first | apply Kd.R_alloc | apply Kd.R_drewN | apply Kd.R_drew)); exact HO_0.out⟩, ⟨by repeat (first | (with_reducible first | exact HB.out | apply below_alloc | apply pw_below_drewN | apply below_drew1) | exact HB.out)⟩⟩
                  · rw [if_neg c15] at H
                    exact absurd H (by simp)
                · rw [if_neg c14] at H
                  exact absurd H (by simp)
          · rw [if_neg c6] at H
            have c6b0 : (((rd_T50 t153 x3_1).f0) == 4) = false := beq_eq_false_iff_ne.mpr c6
            have c6b1 : (((rd_T50 t153 x3_1).f0) != 4) = true := bne_iff_ne.mpr c6
            have H' := Aside0.mk H
            clear H
            obtain ⟨Ao21, co21, eo21⟩ := Kd.R_slice HO_0.out
            subst eo21
            have p156 : 0 ≤ (x3_1 : Int) := of_decide_eq_true (by first | (with_reducible assumption) | assumption)
            have q156 : x3_1 < (t153.length : Int) := of_decide_eq_true (by first | (with_reducible assumption) | assumption)
            obtain ⟨ad156, e156, hx156_0, hx156_1, hx156_2, hx156_3, hx156_4, hx156_5, hx156_6, hx156_7, hx156_8, hx156_9, hx156_10, hx156_11⟩ := at_T50 (Kd.R_reads' HO_0.out).2.2 x3_1 p156 q156
            cases e156
            replace p156 := eq_true p156
            replace q156 := eq_true q156
            go_wp2
            repeat (go_quiet (fail); try go_wp2)
            go_roundg k1
            case measure => have := HK1.out; omega
            case rel => exact ⟨(wrap64 (x3_1 + 1)), (by first | rfl | (simp; done) | (simp [*]; done)), H', ⟨by have := HK1.out; omega⟩, ⟨by (with_reducible repeat (first | apply Kd.R_alloc | apply Kd.R_drewN | apply Kd.R_drew)); exact HO_0.out⟩, ⟨by repeat (first | (with_reducible first | exact HB.out | apply below_alloc | apply pw_below_drewN | apply below_drew1) | exact HB.out)⟩⟩
        · rw [if_neg c5] at H
          exact absurd H (by simp)
      · rw [if_neg c4] at H
        have c4b0 : decide (x3_1 < (t153.length : Int)) = false := decide_eq_false c4
        clear c4
        obtain rfl := Option.some.inj H
        obtain ⟨Ao22, co22, eo22⟩ := Kd.R_slice HO_0.out
        subst eo22
        go_wp2
        repeat (go_quiet (fail); try go_wp2)
        go_ret
        exact ⟨by first | rfl | (simp [errW_none, errW_some] <;> rfl) | (simp [*, errW_none, errW_some] <;> rfl), by repeat (first | (with_reducible first | exact HB.out | apply below_alloc | apply pw_below_drewN | apply below_drew1) | exact HB.out)⟩

/-! ### audit_Wrong: function 21, by hand -/
def audit_Wrong.ev (x : S54) : Go.Proofs.Ythniclbmpeklmaa.Au.Ev := ⟨x.f0, x.f1, x.f2, x.f3.f0, x.f3.f1, x.f4.f0, x.f4.f1, x.f5, x.f6, x.f7, x.f8, x.f9⟩
def audit_Wrong.f (l0 : List S54) : Option Int := if l0.length ≤ 1000000 ∧ (l0.all fun x => Go.Proofs.Ythniclbmpeklmaa.Au.wfB (audit_Wrong.ev x)) = true then some (Go.Proofs.Ythniclbmpeklmaa.Au.wrongI (Go.Proofs.Ythniclbmpeklmaa.Au.gOf (l0.map audit_Wrong.ev)) l0.length) else none
theorem audit_Wrong.calls (A0 : Option Addr) (c0 : Nat) (l0 : List S54) (r : Int) (w : World) (hr0 : Kd.C k54 w A0 l0.length l0) (hc0 : l0.length ≤ c0) (h : audit_Wrong.f l0 = some r) :
    Calls Try.prog 21 #[.slice A0 l0.length c0] w fun e w' => e = .returned (.int .i64 r) ∧ Below w.heap.size w w' := by
  unfold audit_Wrong.f at h
  split at h
  · rename_i hs
    cases h
    have h1 := Go.Proofs.Ythniclbmpeklmaa.Au.wrong_top A0 c0 (l0.map audit_Wrong.ev) (by rw [List.length_map]; exact hs.1) w (fun i e he => by
      rw [List.getElem?_map] at he
      obtain ⟨x, hx, rfl⟩ := Option.map_eq_some_iff.1 he
      have hi : i < l0.length := (List.getElem?_eq_some_iff.1 hx).1
      have hrd : rd_T54 l0 (i : Int) = x := by
        show l0.getD i z54 = x
        rw [List.getD_eq_getElem?_getD, hx]; rfl
      have hat := at_T54 hr0 (i : Int) (by omega) (by omega)
      rw [hrd] at hat
      exact hat) (fun e he => by
      obtain ⟨x, hx, rfl⟩ := List.mem_map.1 he
      exact Go.Proofs.Ythniclbmpeklmaa.Au.wfE_of (List.all_eq_true.1 hs.2 x hx))
    rw [List.length_map] at h1
    exact h1
  · cases h

end Go.Proofs.Ythniclbmpeklmaa.KAud
