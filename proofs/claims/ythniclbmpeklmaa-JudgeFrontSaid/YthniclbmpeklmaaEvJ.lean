/- What is proved: what the program's and the reference's functions tell of an event is one and the same; no conditions. Plain Lean. -/
import Derived.Test.YthniclbmpeklmaaEvI
namespace Go.Proofs.Ythniclbmpeklmaa.Ev
open Go.RowKit
set_option linter.unusedVariables false
set_option linter.unusedSimpArgs false
set_option maxHeartbeats 4000000
theorem right_no (k wk op hn hg nn ng t a u : Int) (y : Bool) (er : Int) (h1 : (fieldsF k wk op er).2 = false) (h2 : kindB k wk op = false) : rightP k wk op hn hg nn ng t a u y er = evRight k wk op hn hg nn ng t a u y er := by
  rw [rightP, evRight, h1, h2]
  rfl
theorem pick_in1 {L : List Int} {op : Int} (h : op < 1 ∨ (L.length : Int) ≤ op) : pickL L op = (0, false) := if_pos h
theorem right_eq (k wk op hn hg nn ng t a u : Int) (y : Bool) (er : Int) : rightP k wk op hn hg nn ng t a u y er = evRight k wk op hn hg nn ng t a u y er := by
  by_cases k1 : k = 1
  · subst k1
    cases y <;> (rw [Bool.eq_iff_iff]; simp (decide := true) [rightP, evRight, fieldsF, pickL, kindB, emptyB, hasH, hasN, hasT, hasA, hasU, hasY, hasE, in3, made, countedB, zb, zy, *] <;> omega)
  by_cases k4 : k = 4
  · subst k4
    cases y <;> (rw [Bool.eq_iff_iff]; simp (decide := true) [rightP, evRight, fieldsF, pickL, kindB, emptyB, hasH, hasN, hasT, hasA, hasU, hasY, hasE, in3, made, countedB, zb, zy, *] <;> omega)
  by_cases k2 : k = 2
  · subst k2
    by_cases h : op < 1 ∨ (8 : Int) ≤ op
    · apply right_no
      · rw [fieldsF, if_neg (by decide), if_neg (by decide), if_pos rfl, pick_in1 h]
      · rw [Bool.eq_false_iff]
        simp [kindB]
        omega
    · obtain rfl | rfl | rfl | rfl | rfl | rfl | rfl : op = 1 ∨ op = 2 ∨ op = 3 ∨ op = 4 ∨ op = 5 ∨ op = 6 ∨ op = 7 := by omega
      all_goals (cases y <;> (rw [Bool.eq_iff_iff]; simp (decide := true) [rightP, evRight, fieldsF, pickL, kindB, emptyB, hasH, hasN, hasT, hasA, hasU, hasY, hasE, in3, made, countedB, zb, zy, *] <;> omega))
  by_cases k3 : k = 3
  · subst k3
    by_cases h : op < 1 ∨ (5 : Int) ≤ op
    · apply right_no
      · rw [fieldsF, if_neg (by decide), if_neg (by decide), if_neg (by decide), if_pos rfl, pick_in1 h]
      · rw [Bool.eq_false_iff]
        simp [kindB]
        omega
    · by_cases he : er = 0
      · subst he
        obtain rfl | rfl | rfl | rfl : op = 1 ∨ op = 2 ∨ op = 3 ∨ op = 4 := by omega
        all_goals (cases y <;> (rw [Bool.eq_iff_iff]; simp (decide := true) [rightP, evRight, fieldsF, pickL, kindB, emptyB, hasH, hasN, hasT, hasA, hasU, hasY, hasE, in3, made, countedB, zb, zy, *] <;> omega))
      · obtain rfl | rfl | rfl | rfl : op = 1 ∨ op = 2 ∨ op = 3 ∨ op = 4 := by omega
        all_goals (cases y <;> (rw [Bool.eq_iff_iff]; simp (decide := true) [rightP, evRight, fieldsF, pickL, kindB, emptyB, hasH, hasN, hasT, hasA, hasU, hasY, hasE, in3, made, countedB, zb, zy, *] <;> omega))
  by_cases k5 : k = 5
  · subst k5
    by_cases h : op < 1 ∨ (8 : Int) ≤ op
    · apply right_no
      · rw [fieldsF, if_neg (by decide), if_neg (by decide), if_neg (by decide), if_neg (by decide), if_pos rfl, pick_in1 h]
      · rw [Bool.eq_false_iff]
        simp [kindB]
        omega
    · by_cases he : er = 0
      · subst he
        obtain rfl | rfl | rfl | rfl | rfl | rfl | rfl : op = 1 ∨ op = 2 ∨ op = 3 ∨ op = 4 ∨ op = 5 ∨ op = 6 ∨ op = 7 := by omega
        all_goals (cases y <;> (rw [Bool.eq_iff_iff]; simp (decide := true) [rightP, evRight, fieldsF, pickL, kindB, emptyB, hasH, hasN, hasT, hasA, hasU, hasY, hasE, in3, made, countedB, zb, zy, *] <;> omega))
      · obtain rfl | rfl | rfl | rfl | rfl | rfl | rfl : op = 1 ∨ op = 2 ∨ op = 3 ∨ op = 4 ∨ op = 5 ∨ op = 6 ∨ op = 7 := by omega
        all_goals (cases y <;> (rw [Bool.eq_iff_iff]; simp (decide := true) [rightP, evRight, fieldsF, pickL, kindB, emptyB, hasH, hasN, hasT, hasA, hasU, hasY, hasE, in3, made, countedB, zb, zy, *] <;> omega))
  apply right_no
  · rw [fieldsF, if_neg k1, if_neg k4, if_neg k2, if_neg k3, if_neg k5]
  · rw [Bool.eq_false_iff]
    simp [kindB]
    omega

/-- Whether an event is right, as the program tells it: the reference's own answer. -/
theorem event_right (k wk op hn hg nn ng t a u : Int) (y : Bool) (er : Int) (w : World) :
    Calls Try.prog 65 #[.agg (evC k wk op hn hg nn ng t a u y er)] w fun e w' => e = .returned (.bool (evRight k wk op hn hg nn ng t a u y er)) ∧ Below w.heap.size w w' := by
  rw [← right_eq]
  exact ev_right_any k wk op hn hg nn ng t a u y er w
end Go.Proofs.Ythniclbmpeklmaa.Ev
