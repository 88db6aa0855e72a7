/- What is proved: each Go function named here comes to what the plain function of its name comes to, whatever the memory; no conditions. Written by a program of this session (kp.py) over the kit's print. -/
import Derived.Test.YthniclbmpeklmaaKAudx0
import Derived.Test.YthniclbmpeklmaaKAudx1
import Derived.Test.YthniclbmpeklmaaKAudx2
import Derived.Test.YthniclbmpeklmaaKAudx5
namespace Go.Proofs.Ythniclbmpeklmaa.KAud
open Go.RowKit Go.Proofs.YthniclbmpeklmaaW.PrintWords Go.Proofs.YthniclbmpeklmaaW.PrintLast Go.Proofs.YthniclbmpeklmaaW.PrintMore
attribute [local go_sem] max2_int min2_int max_two min_two max_three min_three max_four min_four   -- for this text's walks alone
set_option linter.unusedVariables false
set_option linter.unusedSimpArgs false

attribute [local go_sem high] eqA36
/-! ### knellref14_Wrong: function 22 -/
mutual
def knellref14_Wrong.l0 : Nat → List (S50) → Int → Option (Int)
  | 0, _, _ => none
  | k + 1, x0, x3 => if x3 < (x0.length : Int) then (knellref14_Wrong.l1 k x0 x3 0) else (some (-1))
def knellref14_Wrong.l1 : Nat → List (S50) → Int → Int → Option (Int)
  | 0, _, _, _ => none
  | k + 1, x0, x3, x4 => if x4 < x3 then (if 0 ≤ x3 then (if x3 < (x0.length : Int) then (knellref14_Wrong.j2 k x0 x3 x4 (((rd_T50 x0 x3).f0) == 4)) else (none)) else (none)) else (knellref14_Wrong.j2 k x0 x3 x4 false)
def knellref14_Wrong.j2 : Nat → List (S50) → Int → Int → Bool → Option (Int)
  | 0, _, _, _, _ => none
  | k + 1, x0, x3, x4, x24 => if x24 = true then (if 0 ≤ x4 then (if x4 < (x0.length : Int) then (if ((rd_T50 x0 x4).f0) = 2 then (if 0 ≤ x3 then (if x3 < (x0.length : Int) then (knellref14_Wrong.j3 k x0 x3 x4 (!(((rd_T50 x0 x4).f3.f0) == ((rd_T50 x0 x3).f3.f0)) || (!(((rd_T50 x0 x4).f3.f1) == ((rd_T50 x0 x3).f3.f1))))) else (none)) else (none)) else (knellref14_Wrong.j3 k x0 x3 x4 true)) else (none)) else (none)) else (knellref14_Wrong.l0 k x0 (wrap64 (x3 + 1)))
def knellref14_Wrong.j3 : Nat → List (S50) → Int → Int → Bool → Option (Int)
  | 0, _, _, _, _ => none
  | k + 1, x0, x3, x4, x45 => if x45 = true then (knellref14_Wrong.l1 k x0 x3 (wrap64 (x4 + 1))) else ((knellref14_End.f k x0 x4).bind fun t172 => (if t172 < 0 then (knellref14_Wrong.j4 k x0 x3 x4 t172 true) else (knellref14_Wrong.j4 k x0 x3 x4 t172 (decide (t172 > x3)))))
def knellref14_Wrong.j4 : Nat → List (S50) → Int → Int → Int → Bool → Option (Int)
  | 0, _, _, _, _, _ => none
  | k + 1, x0, x3, x4, x5, x55 => if x55 = true then (knellref14_Wrong.l1 k x0 x3 (wrap64 (x4 + 1))) else (if 0 ≤ x4 then (if x4 < (x0.length : Int) then (if ((rd_T50 x0 x4).f2) = 2 then (if 0 ≤ x5 then (if x5 < (x0.length : Int) then (if (rd_T50 x0 x5).f8 = true then (some x3) else (if ((rd_T50 x0 x4).f2) = 3 then (if ((rd_T50 x0 x5).f9) = 0 then (some x3) else (knellref14_Wrong.l1 k x0 x3 (wrap64 (x4 + 1)))) else (knellref14_Wrong.l1 k x0 x3 (wrap64 (x4 + 1))))) else (none)) else (none)) else (if ((rd_T50 x0 x4).f2) = 3 then (if 0 ≤ x5 then (if x5 < (x0.length : Int) then (if ((rd_T50 x0 x5).f9) = 0 then (some x3) else (knellref14_Wrong.l1 k x0 x3 (wrap64 (x4 + 1)))) else (none)) else (none)) else (knellref14_Wrong.l1 k x0 x3 (wrap64 (x4 + 1))))) else (none)) else (none))
end
def knellref14_Wrong.f (k : Nat) (l0 : List (S50)) : Option (Int) := (knellref14_Clean.f k l0).bind fun t165 => (knellref14_Wrong.l0 k t165 0)
theorem knellref14_Wrong.mono_l : ∀ k, (∀ y0 y1, LeO (knellref14_Wrong.l0 k y0 y1) (knellref14_Wrong.l0 (k + 1) y0 y1)) ∧ (∀ y0 y1 y2, LeO (knellref14_Wrong.l1 k y0 y1 y2) (knellref14_Wrong.l1 (k + 1) y0 y1 y2)) ∧ (∀ y0 y1 y2 y3, LeO (knellref14_Wrong.j2 k y0 y1 y2 y3) (knellref14_Wrong.j2 (k + 1) y0 y1 y2 y3)) ∧ (∀ y0 y1 y2 y3, LeO (knellref14_Wrong.j3 k y0 y1 y2 y3) (knellref14_Wrong.j3 (k + 1) y0 y1 y2 y3)) ∧ (∀ y0 y1 y2 y3 y4, LeO (knellref14_Wrong.j4 k y0 y1 y2 y3 y4) (knellref14_Wrong.j4 (k + 1) y0 y1 y2 y3 y4))
  | 0 => ⟨fun _ _ r h => by simp [knellref14_Wrong.l0] at h, fun _ _ _ r h => by simp [knellref14_Wrong.l1] at h, fun _ _ _ _ r h => by simp [knellref14_Wrong.j2] at h, fun _ _ _ _ r h => by simp [knellref14_Wrong.j3] at h, fun _ _ _ _ _ r h => by simp [knellref14_Wrong.j4] at h⟩
  | k + 1 => by
    obtain ⟨ih0, ih1, ih2, ih3, ih4⟩ := knellref14_Wrong.mono_l k
    refine ⟨?_, ?_, ?_, ?_, ?_⟩
    · intro y0 y1
      unfold knellref14_Wrong.l0
      repeat' first
      | (with_reducible exact ih0 _ _)
      | (with_reducible exact ih1 _ _ _)
      | (with_reducible exact ih2 _ _ _ _)
      | (with_reducible exact ih3 _ _ _ _)
      | (with_reducible exact ih4 _ _ _ _ _)
      | (with_reducible exact knellref14_Clean.mono _ _)
      | (with_reducible exact knellref14_End.mono _ _ _)
      | (with_reducible exact LeO.refl _)
      | (with_reducible exact LeO.none _)
      | (with_reducible refine LeO.ite ?_ ?_)
      | (with_reducible refine LeO.bind ?_ (fun _ => ?_))
      | exact ih0 _ _
      | exact ih1 _ _ _
      | exact ih2 _ _ _ _
      | exact ih3 _ _ _ _
      | exact ih4 _ _ _ _ _
      | exact knellref14_Clean.mono _ _
      | exact knellref14_End.mono _ _ _
      | exact LeO.none _
      | refine LeO.ite ?_ ?_
      | refine LeO.bind ?_ (fun _ => ?_)
    · intro y0 y1 y2
      unfold knellref14_Wrong.l1
      repeat' first
      | (with_reducible exact ih0 _ _)
      | (with_reducible exact ih1 _ _ _)
      | (with_reducible exact ih2 _ _ _ _)
      | (with_reducible exact ih3 _ _ _ _)
      | (with_reducible exact ih4 _ _ _ _ _)
      | (with_reducible exact knellref14_Clean.mono _ _)
      | (with_reducible exact knellref14_End.mono _ _ _)
      | (with_reducible exact LeO.refl _)
      | (with_reducible exact LeO.none _)
      | (with_reducible refine LeO.ite ?_ ?_)
      | (with_reducible refine LeO.bind ?_ (fun _ => ?_))
      | exact ih0 _ _
      | exact ih1 _ _ _
      | exact ih2 _ _ _ _
      | exact ih3 _ _ _ _
      | exact ih4 _ _ _ _ _
      | exact knellref14_Clean.mono _ _
      | exact knellref14_End.mono _ _ _
      | exact LeO.none _
      | refine LeO.ite ?_ ?_
      | refine LeO.bind ?_ (fun _ => ?_)
    · intro y0 y1 y2 y3
      unfold knellref14_Wrong.j2
      repeat' first
      | (with_reducible exact ih0 _ _)
      | (with_reducible exact ih1 _ _ _)
      | (with_reducible exact ih2 _ _ _ _)
      | (with_reducible exact ih3 _ _ _ _)
      | (with_reducible exact ih4 _ _ _ _ _)
      | (with_reducible exact knellref14_Clean.mono _ _)
      | (with_reducible exact knellref14_End.mono _ _ _)
      | (with_reducible exact LeO.refl _)
      | (with_reducible exact LeO.none _)
      | (with_reducible refine LeO.ite ?_ ?_)
      | (with_reducible refine LeO.bind ?_ (fun _ => ?_))
      | exact ih0 _ _
      | exact ih1 _ _ _
      | exact ih2 _ _ _ _
      | exact ih3 _ _ _ _
      | exact ih4 _ _ _ _ _
      | exact knellref14_Clean.mono _ _
      | exact knellref14_End.mono _ _ _
      | exact LeO.none _
      | refine LeO.ite ?_ ?_
      | refine LeO.bind ?_ (fun _ => ?_)
    · intro y0 y1 y2 y3
      unfold knellref14_Wrong.j3
      repeat' first
      | (with_reducible exact ih0 _ _)
      | (with_reducible exact ih1 _ _ _)
      | (with_reducible exact ih2 _ _ _ _)
      | (with_reducible exact ih3 _ _ _ _)
      | (with_reducible exact ih4 _ _ _ _ _)
      | (with_reducible exact knellref14_Clean.mono _ _)
      | (with_reducible exact knellref14_End.mono _ _ _)
      | (with_reducible exact LeO.refl _)
      | (with_reducible exact LeO.none _)
      | (with_reducible refine LeO.ite ?_ ?_)
      | (with_reducible refine LeO.bind ?_ (fun _ => ?_))
      | exact ih0 _ _
      | exact ih1 _ _ _
      | exact ih2 _ _ _ _
      | exact ih3 _ _ _ _
      | exact ih4 _ _ _ _ _
      | exact knellref14_Clean.mono _ _
      | exact knellref14_End.mono _ _ _
      | exact LeO.none _
      | refine LeO.ite ?_ ?_
      | refine LeO.bind ?_ (fun _ => ?_)
    · intro y0 y1 y2 y3 y4
      unfold knellref14_Wrong.j4
      repeat' first
      | (with_reducible exact ih0 _ _)
      | (with_reducible exact ih1 _ _ _)
      | (with_reducible exact ih2 _ _ _ _)
      | (with_reducible exact ih3 _ _ _ _)
      | (with_reducible exact ih4 _ _ _ _ _)
      | (with_reducible exact knellref14_Clean.mono _ _)
      | (with_reducible exact knellref14_End.mono _ _ _)
      | (with_reducible exact LeO.refl _)
      | (with_reducible exact LeO.none _)
      | (with_reducible refine LeO.ite ?_ ?_)
      | (with_reducible refine LeO.bind ?_ (fun _ => ?_))
      | exact ih0 _ _
      | exact ih1 _ _ _
      | exact ih2 _ _ _ _
      | exact ih3 _ _ _ _
      | exact ih4 _ _ _ _ _
      | exact knellref14_Clean.mono _ _
      | exact knellref14_End.mono _ _ _
      | exact LeO.none _
      | refine LeO.ite ?_ ?_
      | refine LeO.bind ?_ (fun _ => ?_)
theorem knellref14_Wrong.mono : ∀ a0 k, LeO (knellref14_Wrong.f k a0) (knellref14_Wrong.f (k + 1) a0) := by
  intro a0 k
  obtain ⟨ih0, ih1, ih2, ih3, ih4⟩ := knellref14_Wrong.mono_l k
  unfold knellref14_Wrong.f
  repeat' first
      | (with_reducible exact ih0 _ _)
      | (with_reducible exact ih1 _ _ _)
      | (with_reducible exact ih2 _ _ _ _)
      | (with_reducible exact ih3 _ _ _ _)
      | (with_reducible exact ih4 _ _ _ _ _)
      | (with_reducible exact knellref14_Clean.mono _ _)
      | (with_reducible exact knellref14_End.mono _ _ _)
      | (with_reducible exact LeO.refl _)
      | (with_reducible exact LeO.none _)
      | (with_reducible refine LeO.ite ?_ ?_)
      | (with_reducible refine LeO.bind ?_ (fun _ => ?_))
      | exact ih0 _ _
      | exact ih1 _ _ _
      | exact ih2 _ _ _ _
      | exact ih3 _ _ _ _
      | exact ih4 _ _ _ _ _
      | exact knellref14_Clean.mono _ _
      | exact knellref14_End.mono _ _ _
      | exact LeO.none _
      | refine LeO.ite ?_ ?_
      | refine LeO.bind ?_ (fun _ => ?_)
set_option maxHeartbeats 8000000 in
set_option maxRecDepth 100000 in
theorem knellref14_Wrong.calls (k : Nat) (A0 : Option Addr) (c0 : Nat) (l0 : List (S50)) (r : Int) (w : World) (hr0 : Kd.C k50 w A0 l0.length l0) (hc0 : l0.length ≤ c0) (h : knellref14_Wrong.f k l0 = some r) :
    Calls Try.prog 22 #[.slice A0 l0.length c0] w fun e w' => e = .returned (.int .i64 r) ∧ Below w.heap.size w w' := by
  have hu36 := Try.underlying36
  have HR0 := Aside0.mk hr0
  have HC0 := Aside0.mk hc0
  clear hr0 hc0
  have HB := Aside0.mk (Below.refl w.heap.size w)
  have H : ((knellref14_Clean.f k l0).bind fun t165 => (knellref14_Wrong.l0 k t165 0)) = some r := h
  clear h
  replace H := Option.bind_eq_some_iff.mp H
  obtain ⟨t165, A20, H⟩ := H
  replace H : (knellref14_Wrong.l0 k t165 0) = some r := H
  have A2 := Aside0.mk A20
  clear A20
  have H' := Aside0.mk H
  clear H
  go_enter Try.func22, Try.ntmps22
  go_wp2_with (first | (go_at_call 50; (with_reducible refine (knellref14_Clean.calls k _ _ l0 t165 _ ?side1 ?side2 A2.out).mono ?_); (case side1 => repeat (first | exact HR0.out | (with_reducible refine Kd.C_alloc ?_ _) | (with_reducible refine Kd.C_drewN ?_ _) | (with_reducible refine Kd.C_drew ?_))); (case side2 => exact HC0.out); rintro e w3 ⟨v166, rfl, ho0, hb⟩; have n0_ := Aside0.mk (Kd.R_lower ho0 (below_size (by repeat (first | (with_reducible first | exact HB.out | apply below_alloc | apply pw_below_drewN | apply below_drew1) | exact HB.out)))); have n1_ := Aside0.mk (below_step (by repeat (first | (with_reducible first | exact HB.out | apply below_alloc | apply pw_below_drewN | apply below_drew1) | exact HB.out)) hb); clear HB; have HO167 := n0_; have HB := n1_; clear n0_ n1_; (try clear hb); (try clear hb2); (try clear hk); (try clear hi); (try clear ho0)))
  repeat (go_quiet (first | (go_at_call 50; (with_reducible refine (knellref14_Clean.calls k _ _ l0 t165 _ ?side1 ?side2 A2.out).mono ?_); (case side1 => repeat (first | exact HR0.out | (with_reducible refine Kd.C_alloc ?_ _) | (with_reducible refine Kd.C_drewN ?_ _) | (with_reducible refine Kd.C_drew ?_))); (case side2 => exact HC0.out); rintro e w3 ⟨v166, rfl, ho0, hb⟩; have n0_ := Aside0.mk (Kd.R_lower ho0 (below_size (by repeat (first | (with_reducible first | exact HB.out | apply below_alloc | apply pw_below_drewN | apply below_drew1) | exact HB.out)))); have n1_ := Aside0.mk (below_step (by repeat (first | (with_reducible first | exact HB.out | apply below_alloc | apply pw_below_drewN | apply below_drew1) | exact HB.out)) hb); clear HB; have HO167 := n0_; have HB := n1_; clear n0_ n1_; (try clear hb); (try clear hb2); (try clear hk); (try clear hi); (try clear ho0))); try go_wp2_with (first | (go_at_call 50; (with_reducible refine (knellref14_Clean.calls k _ _ l0 t165 _ ?side1 ?side2 A2.out).mono ?_); (case side1 => repeat (first | exact HR0.out | (with_reducible refine Kd.C_alloc ?_ _) | (with_reducible refine Kd.C_drewN ?_ _) | (with_reducible refine Kd.C_drew ?_))); (case side2 => exact HC0.out); rintro e w3 ⟨v166, rfl, ho0, hb⟩; have n0_ := Aside0.mk (Kd.R_lower ho0 (below_size (by repeat (first | (with_reducible first | exact HB.out | apply below_alloc | apply pw_below_drewN | apply below_drew1) | exact HB.out)))); have n1_ := Aside0.mk (below_step (by repeat (first | (with_reducible first | exact HB.out | apply below_alloc | apply pw_below_drewN | apply below_drew1) | exact HB.out)) hb); clear HB; have HO167 := n0_; have HB := n1_; clear n0_ n1_; (try clear hb); (try clear hb2); (try clear hk); (try clear hi); (try clear ho0))))
  go_loopg [3] k (fun kq v3 w' => ∃ (x3_1 : Int), v3 = .int .i64 x3_1 ∧ Aside0 (knellref14_Wrong.l0 kq t165 x3_1 = some r) ∧ Aside0 (kq ≤ k) ∧ Aside0 (Kd.R k50 50 w' w.heap.size (fun _ => True) v166 t165) ∧ Aside0 (Below w.heap.size w w'))
  case atStart => exact ⟨(0), (by first | rfl | (simp; done) | (simp [*]; done)), H', ⟨Nat.le_refl _⟩, ⟨by (with_reducible repeat (first | apply Kd.R_alloc | apply Kd.R_drewN | apply Kd.R_drew)); exact HO167.out⟩, ⟨by repeat (first | (with_reducible first | exact HB.out | apply below_alloc | apply pw_below_drewN | apply below_drew1) | exact HB.out)⟩⟩
  case round =>
    clear H'
    (try clear c2); (try clear p2)
    obtain ⟨x3_1, rfl, HA, HK1, HO_0, HB⟩ := hrel
    cases gk with
    | zero => exact absurd HA.out (by simp [knellref14_Wrong.l0])
    | succ k1 =>
      have H := HA.out
      clear HA
      simp only [knellref14_Wrong.l0] at H
      by_cases c4 : x3_1 < (t165.length : Int)
      · rw [if_pos c4] at H
        have c4b0 : decide (x3_1 < (t165.length : Int)) = true := decide_eq_true c4
        clear c4
        have H' := Aside0.mk H
        clear H
        obtain ⟨Ao5, co5, eo5⟩ := Kd.R_slice HO_0.out
        subst eo5
        go_wp2
        repeat (go_quiet (fail); try go_wp2)
        go_loopg [4] k1 (fun kq v4 w' => ∃ (x4_2 : Int), v4 = .int .i64 x4_2 ∧ Aside0 (knellref14_Wrong.l1 kq t165 x3_1 x4_2 = some r) ∧ Aside0 (kq ≤ k1) ∧ Aside0 (Kd.R k50 50 w' w.heap.size (fun _ => True) (.slice Ao5 t165.length co5) t165) ∧ Aside0 (Below w.heap.size w w'))
        case atStart => exact ⟨(0), (by first | rfl | (simp; done) | (simp [*]; done)), H', ⟨Nat.le_refl _⟩, ⟨by (with_reducible repeat (first | apply Kd.R_alloc | apply Kd.R_drewN | apply Kd.R_drew)); exact HO_0.out⟩, ⟨by repeat (first | (with_reducible first | exact HB.out | apply below_alloc | apply pw_below_drewN | apply below_drew1) | exact HB.out)⟩⟩
        case round =>
          clear H'
          (try clear c2); (try clear p2); (try clear c4); (try clear c4b0)
          obtain ⟨x4_2, rfl, HA, HK2, HO_0, HB⟩ := hrel
          cases gk with
          | zero => exact absurd HA.out (by simp [knellref14_Wrong.l1])
          | succ k2 =>
            have H := HA.out
            clear HA
            simp only [knellref14_Wrong.l1] at H
            have HC6 := Aside0.mk H
            clear H
            go_upto_region 6 with (fail)
            repeat (go_quiet (fail); go_upto_region 6 with (fail))
            go_cut [24] (fun v24 wc => ∃ (kq : Nat) (x24_5 : Bool), v24 = .bool x24_5 ∧ Aside0 (knellref14_Wrong.j2 kq t165 x3_1 x4_2 x24_5 = some r) ∧ Aside0 (kq ≤ k2) ∧ Aside0 (Kd.R k50 50 wc w.heap.size (fun _ => True) (.slice Ao5 t165.length co5) t165) ∧ Aside0 (Below w.heap.size w wc))
            case first =>
              have H := HC6.out
              clear HC6
              by_cases c7 : x4_2 < x3_1
              · rw [if_pos c7] at H
                have c7b0 : decide (x4_2 < x3_1) = true := decide_eq_true c7
                clear c7
                (first | rw [c7b0] | (simp only [i64_w, i32_w]; rw [c7b0]) | skip)
                by_cases c8 : 0 ≤ x3_1
                · rw [if_pos c8] at H
                  have c8b0 : decide (0 ≤ x3_1) = true := decide_eq_true c8
                  clear c8
                  by_cases c9 : x3_1 < (t165.length : Int)
                  · rw [if_pos c9] at H
                    have c9b0 : decide (x3_1 < (t165.length : Int)) = true := decide_eq_true c9
                    clear c9
                    have H' := Aside0.mk H
                    clear H
                    have p168 : 0 ≤ (x3_1 : Int) := of_decide_eq_true (by first | (with_reducible assumption) | assumption)
                    have q168 : x3_1 < (t165.length : Int) := of_decide_eq_true (by first | (with_reducible assumption) | assumption)
                    obtain ⟨ad168, e168, hx168_0, hx168_1, hx168_2, hx168_3, hx168_4, hx168_5, hx168_6, hx168_7, hx168_8, hx168_9, hx168_10, hx168_11⟩ := at_T50 (Kd.R_reads' HO_0.out).2.2 x3_1 p168 q168
                    cases e168
                    replace p168 := eq_true p168
                    replace q168 := eq_true q168
                    go_wp2
                    repeat (go_quiet (fail); try go_wp2)
                    go_meet
                    case rel => exact ⟨_, ((((rd_T50 t165 x3_1).f0) == 4)), (by first | rfl | (simp; done) | (simp [*]; done)), H', ⟨by have := HK1.out; have := HK2.out; first | omega | exact Nat.le_refl _⟩, ⟨by (with_reducible repeat (first | apply Kd.R_alloc | apply Kd.R_drewN | apply Kd.R_drew)); exact HO_0.out⟩, ⟨by repeat (first | (with_reducible first | exact HB.out | apply below_alloc | apply pw_below_drewN | apply below_drew1) | exact HB.out)⟩⟩
                  · rw [if_neg c9] at H
                    exact absurd H (by simp)
                · rw [if_neg c8] at H
                  exact absurd H (by simp)
              · rw [if_neg c7] at H
                have c7b0 : decide (x4_2 < x3_1) = false := decide_eq_false c7
                clear c7
                (first | rw [c7b0] | (simp only [i64_w, i32_w]; rw [c7b0]) | skip)
                have H' := Aside0.mk H
                clear H
                go_wp2
                repeat (go_quiet (fail); try go_wp2)
                go_meet
                case rel => exact ⟨_, (false), (by first | rfl | (simp; done) | (simp [*]; done)), H', ⟨by have := HK1.out; have := HK2.out; first | omega | exact Nat.le_refl _⟩, ⟨by (with_reducible repeat (first | apply Kd.R_alloc | apply Kd.R_drewN | apply Kd.R_drew)); exact HO_0.out⟩, ⟨by repeat (first | (with_reducible first | exact HB.out | apply below_alloc | apply pw_below_drewN | apply below_drew1) | exact HB.out)⟩⟩
            case rest =>
              clear HC6; (try clear p1); (try clear q1); (try clear hx1); (try clear c2); (try clear p2); (try clear c4); (try clear c4b0); (try clear c7); (try clear c7b0); (try clear c8); (try clear c8b0); (try clear c9); (try clear c9b0); (try clear hx168_0); (try clear hx168_1); (try clear hx168_10); (try clear hx168_11); (try clear hx168_2); (try clear hx168_3); (try clear hx168_4); (try clear hx168_5); (try clear hx168_6); (try clear hx168_7); (try clear hx168_8); (try clear hx168_9); (try clear p168); (try clear q168)
              obtain ⟨kq, x24_5, rfl, HA, HJ5, HO_0, HB⟩ := hcut
              cases kq with
              | zero => exact absurd HA.out (by simp [knellref14_Wrong.j2])
              | succ kj5 =>
                have H := HA.out
                clear HA
                simp only [knellref14_Wrong.j2] at H
                by_cases c10 : x24_5 = true
                · subst c10
                  have H1 : (if 0 ≤ x4_2 then (if x4_2 < (t165.length : Int) then (if ((rd_T50 t165 x4_2).f0) = 2 then (if 0 ≤ x3_1 then (if x3_1 < (t165.length : Int) then (knellref14_Wrong.j3 kj5 t165 x3_1 x4_2 (!(((rd_T50 t165 x4_2).f3.f0) == ((rd_T50 t165 x3_1).f3.f0)) || (!(((rd_T50 t165 x4_2).f3.f1) == ((rd_T50 t165 x3_1).f3.f1))))) else (none)) else (none)) else (knellref14_Wrong.j3 kj5 t165 x3_1 x4_2 true)) else (none)) else (none)) = some r := by rw [if_pos rfl] at H; exact H
                  clear H
                  have H := H1
                  clear H1
                  have HC11 := Aside0.mk H
                  clear H
                  go_upto_region 8 with (fail)
                  repeat (go_quiet (fail); go_upto_region 8 with (fail))
                  go_cut [45] (fun v45 wc => ∃ (kq : Nat) (x45_10 : Bool), v45 = .bool x45_10 ∧ Aside0 (knellref14_Wrong.j3 kq t165 x3_1 x4_2 x45_10 = some r) ∧ Aside0 (kq ≤ kj5) ∧ Aside0 (Kd.R k50 50 wc w.heap.size (fun _ => True) (.slice Ao5 t165.length co5) t165) ∧ Aside0 (Below w.heap.size w wc))
                  case first =>
                    have H := HC11.out
                    clear HC11
                    by_cases c12 : 0 ≤ x4_2
                    · rw [if_pos c12] at H
                      have c12b0 : decide (0 ≤ x4_2) = true := decide_eq_true c12
                      clear c12
                      (first | rw [c12b0] | (simp only [i64_w, i32_w]; rw [c12b0]) | skip)
                      by_cases c13 : x4_2 < (t165.length : Int)
                      · rw [if_pos c13] at H
                        have c13b0 : decide (x4_2 < (t165.length : Int)) = true := decide_eq_true c13
                        clear c13
                        by_cases c14 : ((rd_T50 t165 x4_2).f0) = 2
                        · rw [if_pos c14] at H
                          have c14b0 : (((rd_T50 t165 x4_2).f0) == 2) = true := beq_iff_eq.mpr c14
                          have c14b1 : (((rd_T50 t165 x4_2).f0) != 2) = false := bne_eq_false_iff_eq.mpr c14
                          clear c14
                          by_cases c15 : 0 ≤ x3_1
                          · rw [if_pos c15] at H
                            have c15b0 : decide (0 ≤ x3_1) = true := decide_eq_true c15
                            clear c15
                            by_cases c16 : x3_1 < (t165.length : Int)
                            · rw [if_pos c16] at H
                              have c16b0 : decide (x3_1 < (t165.length : Int)) = true := decide_eq_true c16
                              clear c16
                              have H' := Aside0.mk H
                              clear H
                              have p169 : 0 ≤ (x4_2 : Int) := of_decide_eq_true (by first | (with_reducible assumption) | assumption)
                              have q169 : x4_2 < (t165.length : Int) := of_decide_eq_true (by first | (with_reducible assumption) | assumption)
                              obtain ⟨ad169, e169, hx169_0, hx169_1, hx169_2, hx169_3, hx169_4, hx169_5, hx169_6, hx169_7, hx169_8, hx169_9, hx169_10, hx169_11⟩ := at_T50 (Kd.R_reads' HO_0.out).2.2 x4_2 p169 q169
                              cases e169
                              replace p169 := eq_true p169
                              replace q169 := eq_true q169
                              have p170 : 0 ≤ (x4_2 : Int) := of_decide_eq_true (by first | (with_reducible assumption) | assumption)
                              have q170 : x4_2 < (t165.length : Int) := of_decide_eq_true (by first | (with_reducible assumption) | assumption)
                              obtain ⟨ad170, e170, hx170_0, hx170_1, hx170_2, hx170_3, hx170_4, hx170_5, hx170_6, hx170_7, hx170_8, hx170_9, hx170_10, hx170_11⟩ := at_T50 (Kd.R_reads' HO_0.out).2.2 x4_2 p170 q170
                              obtain rfl : ad169 = ad170 := (by injection e170)
                              replace p170 := eq_true p170
                              replace q170 := eq_true q170
                              have p171 : 0 ≤ (x3_1 : Int) := of_decide_eq_true (by first | (with_reducible assumption) | assumption)
                              have q171 : x3_1 < (t165.length : Int) := of_decide_eq_true (by first | (with_reducible assumption) | assumption)
                              obtain ⟨ad171, e171, hx171_0, hx171_1, hx171_2, hx171_3, hx171_4, hx171_5, hx171_6, hx171_7, hx171_8, hx171_9, hx171_10, hx171_11⟩ := at_T50 (Kd.R_reads' HO_0.out).2.2 x3_1 p171 q171
                              obtain rfl : ad169 = ad171 := (by injection e171)
                              replace p171 := eq_true p171
                              replace q171 := eq_true q171
                              go_wp2
                              repeat (go_quiet (fail); try go_wp2)
                              go_meet
                              case rel => exact ⟨_, ((!(((rd_T50 t165 x4_2).f3.f0) == ((rd_T50 t165 x3_1).f3.f0)) || (!(((rd_T50 t165 x4_2).f3.f1) == ((rd_T50 t165 x3_1).f3.f1))))), (by first | rfl | (simp; done) | (simp [*]; done)), H', ⟨by have := HK1.out; have := HK2.out; have := HJ5.out; first | omega | exact Nat.le_refl _⟩, ⟨by (with_reducible repeat (first | apply Kd.R_alloc | apply Kd.R_drewN | apply Kd.R_drew)); exact HO_0.out⟩, ⟨by repeat (first | (with_reducible first | exact HB.out | apply below_alloc | apply pw_below_drewN | apply below_drew1) | exact HB.out)⟩⟩
                            · rw [if_neg c16] at H
                              exact absurd H (by simp)
                          · rw [if_neg c15] at H
                            exact absurd H (by simp)
                        · rw [if_neg c14] at H
                          have c14b0 : (((rd_T50 t165 x4_2).f0) == 2) = false := beq_eq_false_iff_ne.mpr c14
                          have c14b1 : (((rd_T50 t165 x4_2).f0) != 2) = true := bne_iff_ne.mpr c14
                          have H' := Aside0.mk H
                          clear H
                          have p169 : 0 ≤ (x4_2 : Int) := of_decide_eq_true (by first | (with_reducible assumption) | assumption)
                          have q169 : x4_2 < (t165.length : Int) := of_decide_eq_true (by first | (with_reducible assumption) | assumption)
                          obtain ⟨ad169, e169, hx169_0, hx169_1, hx169_2, hx169_3, hx169_4, hx169_5, hx169_6, hx169_7, hx169_8, hx169_9, hx169_10, hx169_11⟩ := at_T50 (Kd.R_reads' HO_0.out).2.2 x4_2 p169 q169
                          cases e169
                          replace p169 := eq_true p169
                          replace q169 := eq_true q169
                          go_wp2
                          repeat (go_quiet (fail); try go_wp2)
                          go_meet
                          case rel => exact ⟨_, (true), (by first | rfl | (simp; done) | (simp [*]; done)), H', ⟨by have := HK1.out; have := HK2.out; have := HJ5.out; first | omega | exact Nat.le_refl _⟩, ⟨by (with_reducible repeat (first | apply Kd.R_alloc | apply Kd.R_drewN | apply Kd.R_drew)); exact HO_0.out⟩, ⟨by repeat (first | (with_reducible first | exact HB.out | apply below_alloc | apply pw_below_drewN | apply below_drew1) | exact HB.out)⟩⟩
                      · rw [if_neg c13] at H
                        exact absurd H (by simp)
                    · rw [if_neg c12] at H
                      exact absurd H (by simp)
                  case rest =>
                    clear HC11; (try clear c1); (try clear p1); (try clear q1); (try clear hx1); (try clear c2); (try clear p2); (try clear c4); (try clear c4b0); (try clear c7); (try clear c7b0); (try clear c8); (try clear c8b0); (try clear c9); (try clear c9b0); (try clear c10); (try clear c12); (try clear c12b0); (try clear c13); (try clear c13b0); (try clear c14); (try clear c14b0); (try clear c14b1); (try clear c15); (try clear c15b0); (try clear c16); (try clear c16b0); (try clear p16); (try clear q16); (try clear hx16); (try clear hx168_0); (try clear hx168_1); (try clear hx168_10); (try clear hx168_11); (try clear hx168_2); (try clear hx168_3); (try clear hx168_4); (try clear hx168_5); (try clear hx168_6); (try clear hx168_7); (try clear hx168_8); (try clear hx168_9); (try clear hx169_0); (try clear hx169_1); (try clear hx169_10); (try clear hx169_11); (try clear hx169_2); (try clear hx169_3); (try clear hx169_4); (try clear hx169_5); (try clear hx169_6); (try clear hx169_7); (try clear hx169_8); (try clear hx169_9); (try clear hx170_0); (try clear hx170_1); (try clear hx170_10); (try clear hx170_11); (try clear hx170_2); (try clear hx170_3); (try clear hx170_4); (try clear hx170_5); (try clear hx170_6); (try clear hx170_7); (try clear hx170_8); (try clear hx170_9); (try clear hx171_0); (try clear hx171_1); (try clear hx171_10); (try clear hx171_11); (try clear hx171_2); (try clear hx171_3); (try clear hx171_4); (try clear hx171_5); (try clear hx171_6); (try clear hx171_7); (try clear hx171_8); (try clear hx171_9); (try clear p168); (try clear p169); (try clear p170); (try clear p171); (try clear q168); (try clear q169); (try clear q170); (try clear q171)
                    obtain ⟨kq, x45_10, rfl, HA, HJ10, HO_0, HB⟩ := hcut
                    cases kq with
                    | zero => exact absurd HA.out (by simp [knellref14_Wrong.j3])
                    | succ kj10 =>
                      have H := HA.out
                      clear HA
                      simp only [knellref14_Wrong.j3] at H
                      by_cases c17 : x45_10 = true
                      · subst c17
                        have H1 : (knellref14_Wrong.l1 kj10 t165 x3_1 (wrap64 (x4_2 + 1))) = some r := by rw [if_pos rfl] at H; exact H
                        clear H
                        have H := H1
                        clear H1
                        have H' := Aside0.mk H
                        clear H
                        go_wp2
                        repeat (go_quiet (fail); try go_wp2)
                        go_roundg kj10
                        case measure => have := HK1.out; have := HK2.out; have := HJ5.out; have := HJ10.out; omega
                        case rel => exact ⟨(wrap64 (x4_2 + 1)), (by first | rfl | (simp; done) | (simp [*]; done)), H', ⟨by have := HK1.out; have := HK2.out; have := HJ5.out; have := HJ10.out; omega⟩, ⟨by (with_reducible repeat (first | apply Kd.R_alloc | apply Kd.R_drewN | apply Kd.R_drew)); exact HO_0.out⟩, ⟨by repeat (first | (with_reducible first | exact HB.out | apply below_alloc | apply pw_below_drewN | apply below_drew1) | exact HB.out)⟩⟩
                      · replace c17 := Bool.eq_false_iff.mpr c17
                        subst c17
                        have H1 : ((knellref14_End.f kj10 t165 x4_2).bind fun t172 => (if t172 < 0 then (knellref14_Wrong.j4 kj10 t165 x3_1 x4_2 t172 true) else (knellref14_Wrong.j4 kj10 t165 x3_1 x4_2 t172 (decide (t172 > x3_1))))) = some r := by rw [if_neg (show ¬ (false = true) by decide)] at H; exact H
                        clear H
                        have H := H1
                        clear H1
                        replace H := Option.bind_eq_some_iff.mp H
                        obtain ⟨t172, A180, H⟩ := H
                        replace H : (if t172 < 0 then (knellref14_Wrong.j4 kj10 t165 x3_1 x4_2 t172 true) else (knellref14_Wrong.j4 kj10 t165 x3_1 x4_2 t172 (decide (t172 > x3_1)))) = some r := H
                        have A18 := Aside0.mk A180
                        clear A180
                        have HC19 := Aside0.mk H
                        clear H
                        go_upto_region 10 with (first | (go_at_call 56; (with_reducible refine (knellref14_End.calls kj10 _ _ t165 x4_2 t172 _ ?side1 ?side2 A18.out).mono ?_); (case side1 => repeat (first | exact (Kd.R_reads' HO_0.out).2.2 | (with_reducible refine Kd.C_alloc ?_ _) | (with_reducible refine Kd.C_drewN ?_ _) | (with_reducible refine Kd.C_drew ?_))); (case side2 => exact (Kd.R_reads' HO_0.out).2.1); rintro e w20 ⟨rfl, hb⟩; have n0_ := Aside0.mk (Kd.R_below (by (with_reducible repeat (first | apply Kd.R_alloc | apply Kd.R_drewN | apply Kd.R_drew)); exact HO_0.out) hb); have n1_ := Aside0.mk (below_step (by repeat (first | (with_reducible first | exact HB.out | apply below_alloc | apply pw_below_drewN | apply below_drew1) | exact HB.out)) hb); clear HO_0; clear HB; have HO_0 := n0_; have HB := n1_; clear n0_ n1_; (try clear hb); (try clear hb2); (try clear hk); (try clear hi)))
                        repeat (go_quiet (first | (go_at_call 56; (with_reducible refine (knellref14_End.calls kj10 _ _ t165 x4_2 t172 _ ?side1 ?side2 A18.out).mono ?_); (case side1 => repeat (first | exact (Kd.R_reads' HO_0.out).2.2 | (with_reducible refine Kd.C_alloc ?_ _) | (with_reducible refine Kd.C_drewN ?_ _) | (with_reducible refine Kd.C_drew ?_))); (case side2 => exact (Kd.R_reads' HO_0.out).2.1); rintro e w20 ⟨rfl, hb⟩; have n0_ := Aside0.mk (Kd.R_below (by (with_reducible repeat (first | apply Kd.R_alloc | apply Kd.R_drewN | apply Kd.R_drew)); exact HO_0.out) hb); have n1_ := Aside0.mk (below_step (by repeat (first | (with_reducible first | exact HB.out | apply below_alloc | apply pw_below_drewN | apply below_drew1) | exact HB.out)) hb); clear HO_0; clear HB; have HO_0 := n0_; have HB := n1_; clear n0_ n1_; (try clear hb); (try clear hb2); (try clear hk); (try clear hi))); go_upto_region 10 with (first | (go_at_call 56; (with_reducible refine (knellref14_End.calls kj10 _ _ t165 x4_2 t172 _ ?side1 ?side2 A18.out).mono ?_); (case side1 => repeat (first | exact (Kd.R_reads' HO_0.out).2.2 | (with_reducible refine Kd.C_alloc ?_ _) | (with_reducible refine Kd.C_drewN ?_ _) | (with_reducible refine Kd.C_drew ?_))); (case side2 => exact (Kd.R_reads' HO_0.out).2.1); rintro e w20 ⟨rfl, hb⟩; have n0_ := Aside0.mk (Kd.R_below (by (with_reducible repeat (first | apply Kd.R_alloc | apply Kd.R_drewN | apply Kd.R_drew)); exact HO_0.out) hb); have n1_ := Aside0.mk (below_step (by repeat (first | (with_reducible first | exact HB.out | apply below_alloc | apply pw_below_drewN | apply below_drew1) | exact HB.out)) hb); clear HO_0; clear HB; have HO_0 := n0_; have HB := n1_; clear n0_ n1_; (try clear hb); (try clear hb2); (try clear hk); (try clear hi))))
                        (try simp only [Act.put, List.setIfInBounds_toArray, List.set_cons_zero, List.set_cons_succ])
                        go_cut [55] (fun v55 wc => ∃ (kq : Nat) (x55_18 : Bool), v55 = .bool x55_18 ∧ Aside0 (knellref14_Wrong.j4 kq t165 x3_1 x4_2 t172 x55_18 = some r) ∧ Aside0 (kq ≤ kj10) ∧ Aside0 (Kd.R k50 50 wc w.heap.size (fun _ => True) (.slice Ao5 t165.length co5) t165) ∧ Aside0 (Below w.heap.size w wc))
                        case first =>
                          have H := HC19.out
                          clear HC19
                          by_cases c21 : t172 < 0
                          · rw [if_pos c21] at H
                            have c21b0 : decide (t172 < 0) = true := decide_eq_true c21
                            clear c21
                            (first | rw [c21b0] | (simp only [i64_w, i32_w]; rw [c21b0]) | skip)
                            have H' := Aside0.mk H
                            clear H
                            go_wp2
                            repeat (go_quiet (fail); try go_wp2)
                            go_meet
                            case rel => exact ⟨_, (true), (by first | rfl | (simp; done) | (simp [*]; done)), H', ⟨by have := HK1.out; have := HK2.out; have := HJ5.out; have := HJ10.out; first | omega | exact Nat.le_refl _⟩, ⟨by (with_reducible repeat (first | apply Kd.R_alloc | apply Kd.R_drewN | apply Kd.R_drew)); exact HO_0.out⟩, ⟨by repeat (first | (with_reducible first | exact HB.out | apply below_alloc | apply pw_below_drewN | apply below_drew1) | exact HB.out)⟩⟩
                          · rw [if_neg c21] at H
                            have c21b0 : decide (t172 < 0) = false := decide_eq_false c21
                            clear c21
                            (first | rw [c21b0] | (simp only [i64_w, i32_w]; rw [c21b0]) | skip)
                            have H' := Aside0.mk H
                            clear H
                            go_wp2
                            repeat (go_quiet (fail); try go_wp2)
                            go_meet
                            case rel => exact ⟨_, (decide (t172 > x3_1)), (by first | rfl | (simp; done) | (simp [*]; done)), H', ⟨by have := HK1.out; have := HK2.out; have := HJ5.out; have := HJ10.out; first | omega | exact Nat.le_refl _⟩, ⟨by (with_reducible repeat (first | apply Kd.R_alloc | apply Kd.R_drewN | apply Kd.R_drew)); exact HO_0.out⟩, ⟨by repeat (first | (with_reducible first | exact HB.out | apply below_alloc | apply pw_below_drewN | apply below_drew1) | exact HB.out)⟩⟩
                        case rest =>
                          clear HC19; (try clear c1); (try clear p1); (try clear q1); (try clear hx1); (try clear c2); (try clear p2); (try clear c4); (try clear c4b0); (try clear p6); (try clear c7); (try clear c7b0); (try clear c8); (try clear c8b0); (try clear c9); (try clear c9b0); (try clear c10); (try clear c12); (try clear c12b0); (try clear c13); (try clear c13b0); (try clear c14); (try clear c14b0); (try clear c14b1); (try clear c15); (try clear c15b0); (try clear c16); (try clear c16b0); (try clear p16); (try clear q16); (try clear hx16); (try clear c17); (try clear p17); (try clear q17); (try clear hx17); (try clear c21); (try clear c21b0); (try clear hx168_0); (try clear hx168_1); (try clear hx168_10); (try clear hx168_11); (try clear hx168_2); (try clear hx168_3); (try clear hx168_4); (try clear hx168_5); (try clear hx168_6); (try clear hx168_7); (try clear hx168_8); (try clear hx168_9); (try clear hx169_0); (try clear hx169_1); (try clear hx169_10); (try clear hx169_11); (try clear hx169_2); (try clear hx169_3); (try clear hx169_4); (try clear hx169_5); (try clear hx169_6); (try clear hx169_7); (try clear hx169_8); (try clear hx169_9); (try clear hx170_0); (try clear hx170_1); (try clear hx170_10); (try clear hx170_11); (try clear hx170_2); (try clear hx170_3); (try clear hx170_4); (try clear hx170_5); (try clear hx170_6); (try clear hx170_7); (try clear hx170_8); (try clear hx170_9); (try clear hx171_0); (try clear hx171_1); (try clear hx171_10); (try clear hx171_11); (try clear hx171_2); (try clear hx171_3); (try clear hx171_4); (try clear hx171_5); (try clear hx171_6); (try clear hx171_7); (try clear hx171_8); (try clear hx171_9); (try clear p168); (try clear p169); (try clear p170); (try clear p171); (try clear q168); (try clear q169); (try clear q170); (try clear q171)
                          obtain ⟨kq, x55_18, rfl, HA, HJ18, HO_0, HB⟩ := hcut
                          cases kq with
                          | zero => exact absurd HA.out (by simp [knellref14_Wrong.j4])
                          | succ kj18 =>
                            have H := HA.out
                            clear HA
                            simp only [knellref14_Wrong.j4] at H
                            by_cases c22 : x55_18 = true
                            · subst c22
                              have H1 : (knellref14_Wrong.l1 kj18 t165 x3_1 (wrap64 (x4_2 + 1))) = some r := by rw [if_pos rfl] at H; exact H
                              clear H
                              have H := H1
                              clear H1
                              have H' := Aside0.mk H
                              clear H
                              go_wp2
                              repeat (go_quiet (fail); try go_wp2)
                              go_roundg kj18
                              case measure => have := HK1.out; have := HK2.out; have := HJ5.out; have := HJ10.out; have := HJ18.out; omega
                              case rel => exact ⟨(wrap64 (x4_2 + 1)), (by first | rfl | (simp; done) | (simp [*]; done)), H', ⟨by have := HK1.out; have := HK2.out; have := HJ5.out; have := HJ10.out; have := HJ18.out; omega⟩, ⟨by (with_reducible repeat (first | apply Kd.R_alloc | apply Kd.R_drewN | apply Kd.R_drew)); exact HO_0.out⟩, ⟨by repeat (first | (with_reducible first | exact HB.out | apply below_alloc | apply pw_below_drewN | apply below_drew1) | exact HB.out)⟩⟩
                            · replace c22 := Bool.eq_false_iff.mpr c22
                              subst c22
                              have H1 : (if 0 ≤ x4_2 then (if x4_2 < (t165.length : Int) then (if ((rd_T50 t165 x4_2).f2) = 2 then (if 0 ≤ t172 then (if t172 < (t165.length : Int) then (if (rd_T50 t165 t172).f8 = true then (some x3_1) else (if ((rd_T50 t165 x4_2).f2) = 3 then (if ((rd_T50 t165 t172).f9) = 0 then (some x3_1) else (knellref14_Wrong.l1 kj18 t165 x3_1 (wrap64 (x4_2 + 1)))) else (knellref14_Wrong.l1 kj18 t165 x3_1 (wrap64 (x4_2 + 1))))) else (none)) else (none)) else (if ((rd_T50 t165 x4_2).f2) = 3 then (if 0 ≤ t172 then (if t172 < (t165.length : Int) then (if ((rd_T50 t165 t172).f9) = 0 then (some x3_1) else (knellref14_Wrong.l1 kj18 t165 x3_1 (wrap64 (x4_2 + 1)))) else (none)) else (none)) else (knellref14_Wrong.l1 kj18 t165 x3_1 (wrap64 (x4_2 + 1))))) else (none)) else (none)) = some r := by rw [if_neg (show ¬ (false = true) by decide)] at H; exact H
                              clear H
                              have H := H1
                              clear H1
                              by_cases c23 : 0 ≤ x4_2
                              · rw [if_pos c23] at H
                                have c23b0 : decide (0 ≤ x4_2) = true := decide_eq_true c23
                                clear c23
                                by_cases c24 : x4_2 < (t165.length : Int)
                                · rw [if_pos c24] at H
                                  have c24b0 : decide (x4_2 < (t165.length : Int)) = true := decide_eq_true c24
                                  clear c24
                                  by_cases c25 : ((rd_T50 t165 x4_2).f2) = 2
                                  · rw [if_pos c25] at H
                                    have c25b0 : (((rd_T50 t165 x4_2).f2) == 2) = true := beq_iff_eq.mpr c25
                                    have c25b1 : (((rd_T50 t165 x4_2).f2) != 2) = false := bne_eq_false_iff_eq.mpr c25
                                    clear c25
                                    by_cases c26 : 0 ≤ t172
                                    · rw [if_pos c26] at H
                                      have c26b0 : decide (0 ≤ t172) = true := decide_eq_true c26
                                      clear c26
                                      by_cases c27 : t172 < (t165.length : Int)
                                      · rw [if_pos c27] at H
                                        have c27b0 : decide (t172 < (t165.length : Int)) = true := decide_eq_true c27
                                        clear c27
                                        obtain ⟨bq28, hbq28⟩ : ∃ b_ : Bool, b_ = ((rd_T50 t165 t172).f8) := ⟨_, rfl⟩
                                        replace H : (if bq28 = true then (some x3_1) else (if ((rd_T50 t165 x4_2).f2) = 3 then (if ((rd_T50 t165 t172).f9) = 0 then (some x3_1) else (knellref14_Wrong.l1 kj18 t165 x3_1 (wrap64 (x4_2 + 1)))) else (knellref14_Wrong.l1 kj18 t165 x3_1 (wrap64 (x4_2 + 1))))) = some r := by rw [← hbq28] at H; exact H
                                        have Nbq28 := Aside0.mk hbq28
                                        clear hbq28
                                        by_cases c29 : bq28 = true
                                        · subst c29
                                          have H1 : (some x3_1) = some r := by rw [if_pos rfl] at H; exact H
                                          clear H
                                          have H := H1
                                          clear H1
                                          obtain rfl := Option.some.inj H
                                          have p173 : 0 ≤ (x4_2 : Int) := of_decide_eq_true (by first | (with_reducible assumption) | assumption)
                                          have q173 : x4_2 < (t165.length : Int) := of_decide_eq_true (by first | (with_reducible assumption) | assumption)
                                          obtain ⟨ad173, e173, hx173_0, hx173_1, hx173_2, hx173_3, hx173_4, hx173_5, hx173_6, hx173_7, hx173_8, hx173_9, hx173_10, hx173_11⟩ := at_T50 (Kd.R_reads' HO_0.out).2.2 x4_2 p173 q173
                                          (try rw [← Nbq28.out] at hx173_10)
                                          cases e173
                                          replace p173 := eq_true p173
                                          replace q173 := eq_true q173
                                          have p174 : 0 ≤ (t172 : Int) := of_decide_eq_true (by first | (with_reducible assumption) | assumption)
                                          have q174 : t172 < (t165.length : Int) := of_decide_eq_true (by first | (with_reducible assumption) | assumption)
                                          obtain ⟨ad174, e174, hx174_0, hx174_1, hx174_2, hx174_3, hx174_4, hx174_5, hx174_6, hx174_7, hx174_8, hx174_9, hx174_10, hx174_11⟩ := at_T50 (Kd.R_reads' HO_0.out).2.2 t172 p174 q174
                                          (try rw [← Nbq28.out] at hx174_10)
                                          obtain rfl : ad173 = ad174 := (by injection e174)
                                          replace p174 := eq_true p174
                                          replace q174 := eq_true q174
                                          go_wp2
                                          repeat (go_quiet (fail); try go_wp2)
                                          go_ret
                                          exact ⟨by first | rfl | (simp [errW_none, errW_some] <;> rfl) | (simp [*, errW_none, errW_some] <;> rfl), by repeat (first | (with_reducible first | exact HB.out | apply below_alloc | apply pw_below_drewN | apply below_drew1) | exact HB.out)⟩
                                        · replace c29 := Bool.eq_false_iff.mpr c29
                                          subst c29
                                          have H1 : (if ((rd_T50 t165 x4_2).f2) = 3 then (if ((rd_T50 t165 t172).f9) = 0 then (some x3_1) else (knellref14_Wrong.l1 kj18 t165 x3_1 (wrap64 (x4_2 + 1)))) else (knellref14_Wrong.l1 kj18 t165 x3_1 (wrap64 (x4_2 + 1)))) = some r := by rw [if_neg (show ¬ (false = true) by decide)] at H; exact H
                                          clear H
                                          have H := H1
                                          clear H1
                                          by_cases c30 : ((rd_T50 t165 x4_2).f2) = 3
                                          · rw [if_pos c30] at H
                                            have c30b0 : (((rd_T50 t165 x4_2).f2) == 3) = true := beq_iff_eq.mpr c30
                                            have c30b1 : (((rd_T50 t165 x4_2).f2) != 3) = false := bne_eq_false_iff_eq.mpr c30
                                            clear c30
                                            by_cases c31 : ((rd_T50 t165 t172).f9) = 0
                                            · rw [if_pos c31] at H
                                              have c31b0 : (((rd_T50 t165 t172).f9) == 0) = true := beq_iff_eq.mpr c31
                                              have c31b1 : (((rd_T50 t165 t172).f9) != 0) = false := bne_eq_false_iff_eq.mpr c31
                                              clear c31
                                              obtain rfl := Option.some.inj H
                                              have p173 : 0 ≤ (x4_2 : Int) := of_decide_eq_true (by first | (with_reducible assumption) | assumption)
                                              have q173 : x4_2 < (t165.length : Int) := of_decide_eq_true (by first | (with_reducible assumption) | assumption)
                                              obtain ⟨ad173, e173, hx173_0, hx173_1, hx173_2, hx173_3, hx173_4, hx173_5, hx173_6, hx173_7, hx173_8, hx173_9, hx173_10, hx173_11⟩ := at_T50 (Kd.R_reads' HO_0.out).2.2 x4_2 p173 q173
                                              (try rw [← Nbq28.out] at hx173_10)
                                              cases e173
                                              replace p173 := eq_true p173
                                              replace q173 := eq_true q173
                                              have p174 : 0 ≤ (t172 : Int) := of_decide_eq_true (by first | (with_reducible assumption) | assumption)
                                              have q174 : t172 < (t165.length : Int) := of_decide_eq_true (by first | (with_reducible assumption) | assumption)
                                              obtain ⟨ad174, e174, hx174_0, hx174_1, hx174_2, hx174_3, hx174_4, hx174_5, hx174_6, hx174_7, hx174_8, hx174_9, hx174_10, hx174_11⟩ := at_T50 (Kd.R_reads' HO_0.out).2.2 t172 p174 q174
                                              (try rw [← Nbq28.out] at hx174_10)
                                              obtain rfl : ad173 = ad174 := (by injection e174)
                                              replace p174 := eq_true p174
                                              replace q174 := eq_true q174
                                              have p175 : 0 ≤ (x4_2 : Int) := of_decide_eq_true (by first | (with_reducible assumption) | assumption)
                                              have q175 : x4_2 < (t165.length : Int) := of_decide_eq_true (by first | (with_reducible assumption) | assumption)
                                              obtain ⟨ad175, e175, hx175_0, hx175_1, hx175_2, hx175_3, hx175_4, hx175_5, hx175_6, hx175_7, hx175_8, hx175_9, hx175_10, hx175_11⟩ := at_T50 (Kd.R_reads' HO_0.out).2.2 x4_2 p175 q175
                                              (try rw [← Nbq28.out] at hx175_10)
                                              obtain rfl : ad173 = ad175 := (by injection e175)
                                              replace p175 := eq_true p175
                                              replace q175 := eq_true q175
                                              have p176 : 0 ≤ (t172 : Int) := of_decide_eq_true (by first | (with_reducible assumption) | assumption)
                                              have q176 : t172 < (t165.length : Int) := of_decide_eq_true (by first | (with_reducible assumption) | assumption)
                                              obtain ⟨ad176, e176, hx176_0, hx176_1, hx176_2, hx176_3, hx176_4, hx176_5, hx176_6, hx176_7, hx176_8, hx176_9, hx176_10, hx176_11⟩ := at_T50 (Kd.R_reads' HO_0.out).2.2 t172 p176 q176
                                              (try rw [← Nbq28.out] at hx176_10)
                                              obtain rfl : ad173 = ad176 := (by injection e176)
                                              replace p176 := eq_true p176
                                              replace q176 := eq_true q176
                                              go_wp2
                                              repeat (go_quiet (fail); try go_wp2)
                                              go_ret
                                              exact ⟨by first | rfl | (simp [errW_none, errW_some] <;> rfl) | (simp [*, errW_none, errW_some] <;> rfl), by repeat (first | (with_reducible first | exact HB.out | apply below_alloc | apply pw_below_drewN | apply below_drew1) | exact HB.out)⟩
                                            · rw [if_neg c31] at H
                                              have c31b0 : (((rd_T50 t165 t172).f9) == 0) = false := beq_eq_false_iff_ne.mpr c31
                                              have c31b1 : (((rd_T50 t165 t172).f9) != 0) = true := bne_iff_ne.mpr c31
                                              have H' := Aside0.mk H
                                              clear H
                                              have p173 : 0 ≤ (x4_2 : Int) := of_decide_eq_true (by first | (with_reducible assumption) | assumption)
                                              have q173 : x4_2 < (t165.length : Int) := of_decide_eq_true (by first | (with_reducible assumption) | assumption)
                                              obtain ⟨ad173, e173, hx173_0, hx173_1, hx173_2, hx173_3, hx173_4, hx173_5, hx173_6, hx173_7, hx173_8, hx173_9, hx173_10, hx173_11⟩ := at_T50 (Kd.R_reads' HO_0.out).2.2 x4_2 p173 q173
                                              (try rw [← Nbq28.out] at hx173_10)
                                              cases e173
                                              replace p173 := eq_true p173
                                              replace q173 := eq_true q173
                                              have p174 : 0 ≤ (t172 : Int) := of_decide_eq_true (by first | (with_reducible assumption) | assumption)
                                              have q174 : t172 < (t165.length : Int) := of_decide_eq_true (by first | (with_reducible assumption) | assumption)
                                              obtain ⟨ad174, e174, hx174_0, hx174_1, hx174_2, hx174_3, hx174_4, hx174_5, hx174_6, hx174_7, hx174_8, hx174_9, hx174_10, hx174_11⟩ := at_T50 (Kd.R_reads' HO_0.out).2.2 t172 p174 q174
                                              (try rw [← Nbq28.out] at hx174_10)
                                              obtain rfl : ad173 = ad174 := (by injection e174)
                                              replace p174 := eq_true p174
                                              replace q174 := eq_true q174
                                              have p175 : 0 ≤ (x4_2 : Int) := of_decide_eq_true (by first | (with_reducible assumption) | assumption)
                                              have q175 : x4_2 < (t165.length : Int) := of_decide_eq_true (by first | (with_reducible assumption) | assumption)
                                              obtain ⟨ad175, e175, hx175_0, hx175_1, hx175_2, hx175_3, hx175_4, hx175_5, hx175_6, hx175_7, hx175_8, hx175_9, hx175_10, hx175_11⟩ := at_T50 (Kd.R_reads' HO_0.out).2.2 x4_2 p175 q175
                                              (try rw [← Nbq28.out] at hx175_10)
                                              obtain rfl : ad173 = ad175 := (by injection e175)
                                              replace p175 := eq_true p175
                                              replace q175 := eq_true q175
                                              have p176 : 0 ≤ (t172 : Int) := of_decide_eq_true (by first | (with_reducible assumption) | assumption)
                                              have q176 : t172 < (t165.length : Int) := of_decide_eq_true (by first | (with_reducible assumption) | assumption)
                                              obtain ⟨ad176, e176, hx176_0, hx176_1, hx176_2, hx176_3, hx176_4, hx176_5, hx176_6, hx176_7, hx176_8, hx176_9, hx176_10, hx176_11⟩ := at_T50 (Kd.R_reads' HO_0.out).2.2 t172 p176 q176
                                              (try rw [← Nbq28.out] at hx176_10)
                                              obtain rfl : ad173 = ad176 := (by injection e176)
                                              replace p176 := eq_true p176
                                              replace q176 := eq_true q176
                                              go_wp2
                                              repeat (go_quiet (fail); try go_wp2)
                                              go_roundg kj18
                                              case measure => have := HK1.out; have := HK2.out; have := HJ5.out; have := HJ10.out; have := HJ18.out; omega
                                              case rel => exact ⟨(wrap64 (x4_2 + 1)), (by first | rfl | (simp; done) | (simp [*]; done)), H', ⟨by have := HK1.out; have := HK2.out; have := HJ5.out; have := HJ10.out; have := HJ18.out; omega⟩, ⟨by (with_reducible repeat (first | apply Kd.R_alloc | apply Kd.R_drewN | apply Kd.R_drew)); exact HO_0.out⟩, ⟨by repeat (first | (with_reducible first | exact HB.out | apply below_alloc | apply pw_below_drewN | apply below_drew1) | exact HB.out)⟩⟩
                                          · rw [if_neg c30] at H
                                            have c30b0 : (((rd_T50 t165 x4_2).f2) == 3) = false := beq_eq_false_iff_ne.mpr c30
                                            have c30b1 : (((rd_T50 t165 x4_2).f2) != 3) = true := bne_iff_ne.mpr c30
                                            have H' := Aside0.mk H
                                            clear H
                                            have p173 : 0 ≤ (x4_2 : Int) := of_decide_eq_true (by first | (with_reducible assumption) | assumption)
                                            have q173 : x4_2 < (t165.length : Int) := of_decide_eq_true (by first | (with_reducible assumption) | assumption)
                                            obtain ⟨ad173, e173, hx173_0, hx173_1, hx173_2, hx173_3, hx173_4, hx173_5, hx173_6, hx173_7, hx173_8, hx173_9, hx173_10, hx173_11⟩ := at_T50 (Kd.R_reads' HO_0.out).2.2 x4_2 p173 q173
                                            (try rw [← Nbq28.out] at hx173_10)
                                            cases e173
                                            replace p173 := eq_true p173
                                            replace q173 := eq_true q173
                                            have p174 : 0 ≤ (t172 : Int) := of_decide_eq_true (by first | (with_reducible assumption) | assumption)
                                            have q174 : t172 < (t165.length : Int) := of_decide_eq_true (by first | (with_reducible assumption) | assumption)
                                            obtain ⟨ad174, e174, hx174_0, hx174_1, hx174_2, hx174_3, hx174_4, hx174_5, hx174_6, hx174_7, hx174_8, hx174_9, hx174_10, hx174_11⟩ := at_T50 (Kd.R_reads' HO_0.out).2.2 t172 p174 q174
                                            (try rw [← Nbq28.out] at hx174_10)
                                            obtain rfl : ad173 = ad174 := (by injection e174)
                                            replace p174 := eq_true p174
                                            replace q174 := eq_true q174
                                            have p175 : 0 ≤ (x4_2 : Int) := of_decide_eq_true (by first | (with_reducible assumption) | assumption)
                                            have q175 : x4_2 < (t165.length : Int) := of_decide_eq_true (by first | (with_reducible assumption) | assumption)
                                            obtain ⟨ad175, e175, hx175_0, hx175_1, hx175_2, hx175_3, hx175_4, hx175_5, hx175_6, hx175_7, hx175_8, hx175_9, hx175_10, hx175_11⟩ := at_T50 (Kd.R_reads' HO_0.out).2.2 x4_2 p175 q175
                                            (try rw [← Nbq28.out] at hx175_10)
                                            obtain rfl : ad173 = ad175 := (by injection e175)
                                            replace p175 := eq_true p175
                                            replace q175 := eq_true q175
                                            go_wp2
                                            repeat (go_quiet (fail); try go_wp2)
                                            go_roundg kj18
                                            case measure => have := HK1.out; have := HK2.out; have := HJ5.out; have := HJ10.out; have := HJ18.out; omega
                                            case rel => exact ⟨(wrap64 (x4_2 + 1)), (by first | rfl | (simp; done) | (simp [*]; done)), H', ⟨by have := HK1.out; have := HK2.out; have := HJ5.out; have := HJ10.out; have := HJ18.out; omega⟩, ⟨by (with_reducible repeat (first | apply Kd.R_alloc | apply Kd.R_drewN | apply Kd.R_drew)); exact HO_0.out⟩, ⟨by repeat (first | (with_reducible first | exact HB.out | apply below_alloc | apply pw_below_drewN | apply below_drew1) | exact HB.out)⟩⟩
                                      · rw [if_neg c27] at H
                                        exact absurd H (by simp)
                                    · rw [if_neg c26] at H
                                      exact absurd H (by simp)
                                  · rw [if_neg c25] at H
                                    have c25b0 : (((rd_T50 t165 x4_2).f2) == 2) = false := beq_eq_false_iff_ne.mpr c25
                                    have c25b1 : (((rd_T50 t165 x4_2).f2) != 2) = true := bne_iff_ne.mpr c25
                                    by_cases c32 : ((rd_T50 t165 x4_2).f2) = 3
                                    · rw [if_pos c32] at H
                                      have c32b0 : (((rd_T50 t165 x4_2).f2) == 3) = true := beq_iff_eq.mpr c32
                                      have c32b1 : (((rd_T50 t165 x4_2).f2) != 3) = false := bne_eq_false_iff_eq.mpr c32
                                      clear c32
                                      by_cases c33 : 0 ≤ t172
                                      · rw [if_pos c33] at H
                                        have c33b0 : decide (0 ≤ t172) = true := decide_eq_true c33
                                        clear c33
                                        by_cases c34 : t172 < (t165.length : Int)
                                        · rw [if_pos c34] at H
                                          have c34b0 : decide (t172 < (t165.length : Int)) = true := decide_eq_true c34
                                          clear c34
                                          by_cases c35 : ((rd_T50 t165 t172).f9) = 0
                                          · rw [if_pos c35] at H
                                            have c35b0 : (((rd_T50 t165 t172).f9) == 0) = true := beq_iff_eq.mpr c35
                                            have c35b1 : (((rd_T50 t165 t172).f9) != 0) = false := bne_eq_false_iff_eq.mpr c35
                                            clear c35
                                            obtain rfl := Option.some.inj H
                                            have p173 : 0 ≤ (x4_2 : Int) := of_decide_eq_true (by first | (with_reducible assumption) | assumption)
                                            have q173 : x4_2 < (t165.length : Int) := of_decide_eq_true (by first | (with_reducible assumption) | assumption)
                                            obtain ⟨ad173, e173, hx173_0, hx173_1, hx173_2, hx173_3, hx173_4, hx173_5, hx173_6, hx173_7, hx173_8, hx173_9, hx173_10, hx173_11⟩ := at_T50 (Kd.R_reads' HO_0.out).2.2 x4_2 p173 q173
                                            cases e173
                                            replace p173 := eq_true p173
                                            replace q173 := eq_true q173
                                            have p177 : 0 ≤ (x4_2 : Int) := of_decide_eq_true (by first | (with_reducible assumption) | assumption)
                                            have q177 : x4_2 < (t165.length : Int) := of_decide_eq_true (by first | (with_reducible assumption) | assumption)
                                            obtain ⟨ad177, e177, hx177_0, hx177_1, hx177_2, hx177_3, hx177_4, hx177_5, hx177_6, hx177_7, hx177_8, hx177_9, hx177_10, hx177_11⟩ := at_T50 (Kd.R_reads' HO_0.out).2.2 x4_2 p177 q177
                                            obtain rfl : ad173 = ad177 := (by injection e177)
                                            replace p177 := eq_true p177
                                            replace q177 := eq_true q177
                                            have p178 : 0 ≤ (t172 : Int) := of_decide_eq_true (by first | (with_reducible assumption) | assumption)
                                            have q178 : t172 < (t165.length : Int) := of_decide_eq_true (by first | (with_reducible assumption) | assumption)
                                            obtain ⟨ad178, e178, hx178_0, hx178_1, hx178_2, hx178_3, hx178_4, hx178_5, hx178_6, hx178_7, hx178_8, hx178_9, hx178_10, hx178_11⟩ := at_T50 (Kd.R_reads' HO_0.out).2.2 t172 p178 q178
                                            obtain rfl : ad173 = ad178 := (by injection e178)
                                            replace p178 := eq_true p178
                                            replace q178 := eq_true q178
                                            go_wp2
                                            repeat (go_quiet (fail); try go_wp2)
                                            go_ret
                                            exact ⟨by first | rfl | (simp [errW_none, errW_some] <;> rfl) | (simp [*, errW_none, errW_some] <;> rfl), by repeat (first | (with_reducible first | exact HB.out | apply below_alloc | apply pw_below_drewN | apply below_drew1) | exact HB.out)⟩
                                          · rw [if_neg c35] at H
                                            have c35b0 : (((rd_T50 t165 t172).f9) == 0) = false := beq_eq_false_iff_ne.mpr c35
                                            have c35b1 : (((rd_T50 t165 t172).f9) != 0) = true := bne_iff_ne.mpr c35
                                            have H' := Aside0.mk H
                                            clear H
                                            have p173 : 0 ≤ (x4_2 : Int) := of_decide_eq_true (by first | (with_reducible assumption) | assumption)
                                            have q173 : x4_2 < (t165.length : Int) := of_decide_eq_true (by first | (with_reducible assumption) | assumption)
                                            obtain ⟨ad173, e173, hx173_0, hx173_1, hx173_2, hx173_3, hx173_4, hx173_5, hx173_6, hx173_7, hx173_8, hx173_9, hx173_10, hx173_11⟩ := at_T50 (Kd.R_reads' HO_0.out).2.2 x4_2 p173 q173
                                            cases e173
                                            replace p173 := eq_true p173
                                            replace q173 := eq_true q173
                                            have p177 : 0 ≤ (x4_2 : Int) := of_decide_eq_true (by first | (with_reducible assumption) | assumption)
                                            have q177 : x4_2 < (t165.length : Int) := of_decide_eq_true (by first | (with_reducible assumption) | assumption)
                                            obtain ⟨ad177, e177, hx177_0, hx177_1, hx177_2, hx177_3, hx177_4, hx177_5, hx177_6, hx177_7, hx177_8, hx177_9, hx177_10, hx177_11⟩ := at_T50 (Kd.R_reads' HO_0.out).2.2 x4_2 p177 q177
                                            obtain rfl : ad173 = ad177 := (by injection e177)
                                            replace p177 := eq_true p177
                                            replace q177 := eq_true q177
                                            have p178 : 0 ≤ (t172 : Int) := of_decide_eq_true (by first | (with_reducible assumption) | assumption)
                                            have q178 : t172 < (t165.length : Int) := of_decide_eq_true (by first | (with_reducible assumption) | assumption)
                                            obtain ⟨ad178, e178, hx178_0, hx178_1, hx178_2, hx178_3, hx178_4, hx178_5, hx178_6, hx178_7, hx178_8, hx178_9, hx178_10, hx178_11⟩ := at_T50 (Kd.R_reads' HO_0.out).2.2 t172 p178 q178
                                            obtain rfl : ad173 = ad178 := (by injection e178)
                                            replace p178 := eq_true p178
                                            replace q178 := eq_true q178
                                            go_wp2
                                            repeat (go_quiet (fail); try go_wp2)
                                            go_roundg kj18
                                            case measure => have := HK1.out; have := HK2.out; have := HJ5.out; have := HJ10.out; have := HJ18.out; omega
                                            case rel => exact ⟨(wrap64 (x4_2 + 1)), (by first | rfl | (simp; done) | (simp [*]; done)), H', ⟨by have := HK1.out; have := HK2.out; have := HJ5.out; have := HJ10.out; have := HJ18.out; omega⟩, ⟨by (with_reducible repeat (first | apply Kd.R_alloc | apply Kd.R_drewN | apply Kd.R_drew)); exact HO_0.out⟩, ⟨by repeat (first | (with_reducible first | exact HB.out | apply below_alloc | apply pw_below_drewN | apply below_drew1) | exact HB.out)⟩⟩
                                        · rw [if_neg c34] at H
                                          exact absurd H (by simp)
                                      · rw [if_neg c33] at H
                                        exact absurd H (by simp)
                                    · rw [if_neg c32] at H
                                      have c32b0 : (((rd_T50 t165 x4_2).f2) == 3) = false := beq_eq_false_iff_ne.mpr c32
                                      have c32b1 : (((rd_T50 t165 x4_2).f2) != 3) = true := bne_iff_ne.mpr c32
                                      have H' := Aside0.mk H
                                      clear H
                                      have p173 : 0 ≤ (x4_2 : Int) := of_decide_eq_true (by first | (with_reducible assumption) | assumption)
                                      have q173 : x4_2 < (t165.length : Int) := of_decide_eq_true (by first | (with_reducible assumption) | assumption)
                                      obtain ⟨ad173, e173, hx173_0, hx173_1, hx173_2, hx173_3, hx173_4, hx173_5, hx173_6, hx173_7, hx173_8, hx173_9, hx173_10, hx173_11⟩ := at_T50 (Kd.R_reads' HO_0.out).2.2 x4_2 p173 q173
                                      cases e173
                                      replace p173 := eq_true p173
                                      replace q173 := eq_true q173
                                      have p177 : 0 ≤ (x4_2 : Int) := of_decide_eq_true (by first | (with_reducible assumption) | assumption)
                                      have q177 : x4_2 < (t165.length : Int) := of_decide_eq_true (by first | (with_reducible assumption) | assumption)
                                      obtain ⟨ad177, e177, hx177_0, hx177_1, hx177_2, hx177_3, hx177_4, hx177_5, hx177_6, hx177_7, hx177_8, hx177_9, hx177_10, hx177_11⟩ := at_T50 (Kd.R_reads' HO_0.out).2.2 x4_2 p177 q177
                                      obtain rfl : ad173 = ad177 := (by injection e177)
                                      replace p177 := eq_true p177
                                      replace q177 := eq_true q177
                                      go_wp2
                                      repeat (go_quiet (fail); try go_wp2)
                                      go_roundg kj18
                                      case measure => have := HK1.out; have := HK2.out; have := HJ5.out; have := HJ10.out; have := HJ18.out; omega
                                      case rel => exact ⟨(wrap64 (x4_2 + 1)), (by first | rfl | (simp; done) | (simp [*]; done)), H', ⟨by have := HK1.out; have := HK2.out; have := HJ5.out; have := HJ10.out; have := HJ18.out; omega⟩, ⟨by (with_reducible repeat (first | apply Kd.R_alloc | apply Kd.R_drewN | apply Kd.R_drew)); exact HO_0.out⟩, ⟨by repeat (first | (with_reducible first | exact HB.out | apply below_alloc | apply pw_below_drewN | apply below_drew1) | exact HB.out)⟩⟩
                                · rw [if_neg c24] at H
                                  exact absurd H (by simp)
                              · rw [if_neg c23] at H
                                exact absurd H (by simp)
                · replace c10 := Bool.eq_false_iff.mpr c10
                  subst c10
                  have H1 : (knellref14_Wrong.l0 kj5 t165 (wrap64 (x3_1 + 1))) = some r := by rw [if_neg (show ¬ (false = true) by decide)] at H; exact H
                  clear H
                  have H := H1
                  clear H1
                  have H' := Aside0.mk H
                  clear H
                  go_wp2
                  repeat (go_quiet (fail); try go_wp2)
                  go_roundg kj5
                  case measure => have := HK1.out; have := HK2.out; have := HJ5.out; omega
                  case rel => exact ⟨(wrap64 (x3_1 + 1)), (by first | rfl | (simp; done) | (simp [*]; done)), H', ⟨by have := HK1.out; have := HK2.out; have := HJ5.out; omega⟩, ⟨by (with_reducible repeat (first | apply Kd.R_alloc | apply Kd.R_drewN | apply Kd.R_drew)); exact HO_0.out⟩, ⟨by repeat (first | (with_reducible first | exact HB.out | apply below_alloc | apply pw_below_drewN | apply below_drew1) | exact HB.out)⟩⟩
      · rw [if_neg c4] at H
        have c4b0 : decide (x3_1 < (t165.length : Int)) = false := decide_eq_false c4
        clear c4
        obtain rfl := Option.some.inj H
        obtain ⟨Ao36, co36, eo36⟩ := Kd.R_slice HO_0.out
        subst eo36
        go_wp2
        repeat (go_quiet (fail); try go_wp2)
        go_ret
        exact ⟨by first | rfl | (simp [errW_none, errW_some] <;> rfl) | (simp [*, errW_none, errW_some] <;> rfl), by repeat (first | (with_reducible first | exact HB.out | apply below_alloc | apply pw_below_drewN | apply below_drew1) | exact HB.out)⟩

end Go.Proofs.Ythniclbmpeklmaa.KAud
