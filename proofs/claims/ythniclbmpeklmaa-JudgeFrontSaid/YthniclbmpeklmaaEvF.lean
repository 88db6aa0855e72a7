/- What is proved: whether an event's numbers are 0 or more, as the program tells it; no conditions. -/
import Derived.Test.YthniclbmpeklmaaEvE
namespace Go.Proofs.Ythniclbmpeklmaa.Ev
open Go.RowKit Go.Proofs.YthniclbmpeklmaaW.PrintWords Go.Proofs.YthniclbmpeklmaaW.PrintLast Go.Proofs.YthniclbmpeklmaaW.PrintMore
attribute [local go_sem] max2_int min2_int max_two min_two max_three min_three max_four min_four
set_option linter.unusedVariables false
set_option linter.unusedSimpArgs false
/-- Are the numbers of an event 0 or more? -/
def countedB (k hn hg nn ng t a u : Int) : Bool :=
  (k == 3 || (decide (0 ≤ hn) && decide (0 ≤ hg))) && (decide (0 ≤ nn) && decide (0 ≤ ng) && decide (0 ≤ a) && decide (0 ≤ u) && (if k = 5 then decide (-1 ≤ t) else decide (0 ≤ t)))

theorem counted_eq (k hn hg nn ng t a u m m1 m2 m3 : Int) (e : (if hg < hn then hg else hn) = m) (e1 : (if ng < nn then ng else nn) = m1) (e2 : (if a < m1 then a else m1) = m2) (e3 : (if u < m2 then u else m2) = m3) :
    countedB k hn hg nn ng t a u = ((k == 3 || decide (0 ≤ m)) && (decide (0 ≤ m3) && (if k = 5 then decide (-1 ≤ t) else decide (0 ≤ t)))) := by
  have h1 : decide (0 ≤ m) = (decide (0 ≤ hn) && decide (0 ≤ hg)) := by
    rw [Bool.eq_iff_iff]
    simp
    split at e <;> omega
  have h3 : decide (0 ≤ m3) = (decide (0 ≤ nn) && decide (0 ≤ ng) && decide (0 ≤ a) && decide (0 ≤ u)) := by
    rw [Bool.eq_iff_iff]
    simp
    split at e1 <;> split at e2 <;> split at e3 <;> omega
  rw [h1, h3, countedB]

set_option maxHeartbeats 4000000 in
set_option maxRecDepth 100000 in
theorem counted_any (k wk op hn hg nn ng t a u : Int) (y : Bool) (er : Int) (w : World) :
    Calls Try.prog 93 #[.agg (evC k wk op hn hg nn ng t a u y er)] w fun e w' => e = .returned (.bool (countedB k hn hg nn ng t a u)) ∧ Below w.heap.size w w' := by
  have hu := Try.underlying54
  have HB := Aside0.mk (Below.refl w.heap.size w)
  obtain ⟨m, e⟩ : ∃ m, (if hg < hn then hg else hn) = m := ⟨_, rfl⟩
  obtain ⟨m1, e1⟩ : ∃ m, (if ng < nn then ng else nn) = m := ⟨_, rfl⟩
  obtain ⟨m2, e2⟩ : ∃ m, (if a < m1 then a else m1) = m := ⟨_, rfl⟩
  obtain ⟨m3, e3⟩ : ∃ m, (if u < m2 then u else m2) = m := ⟨_, rfl⟩
  rw [counted_eq k hn hg nn ng t a u m m1 m2 m3 e e1 e2 e3]
  by_cases k3 : k = 3
  · subst k3
    go_enter Try.func93, Try.ntmps93
    go_wp2
    all_goals
      go_ret
      exact ⟨by simp [*] <;> omega, by repeat (first | exact HB.out | apply below_alloc | apply pw_below_drewN)⟩
  · have b3 : (k != 3) = true := bne_iff_ne.2 k3
    have b3' : (k == 3) = false := beq_eq_false_iff_ne.2 k3
    by_cases k5 : k = 5
    · subst k5
      clear k3
      go_enter Try.func93, Try.ntmps93
      go_wp2
      all_goals
        go_ret
        exact ⟨by simp [*] <;> omega, by repeat (first | exact HB.out | apply below_alloc | apply pw_below_drewN)⟩
    · have b5 : (k == 5) = false := beq_eq_false_iff_ne.2 k5
      rw [if_neg k5]
      clear k3 k5
      go_enter Try.func93, Try.ntmps93
      go_wp2
      all_goals
        go_ret
        exact ⟨by simp [*] <;> omega, by repeat (first | exact HB.out | apply below_alloc | apply pw_below_drewN)⟩
end Go.Proofs.Ythniclbmpeklmaa.Ev
