/- What is proved: which fields an event has, as the program tells it by bits; no conditions. -/
import Derived.Test.YthniclbmpeklmaaEvD
import Derived.Handy
import Derived.Laws.Bits
namespace Go.Proofs.Ythniclbmpeklmaa.Ev
open Go.RowKit Go.Proofs.YthniclbmpeklmaaW.PrintWords Go.Proofs.YthniclbmpeklmaaW.PrintLast Go.Proofs.YthniclbmpeklmaaW.PrintMore
set_option linter.unusedVariables false
set_option linter.unusedSimpArgs false

theorem pick_yes (L : List Int) (op : Int) (b : Nat) (w : World) (hL : L.length ≤ 100) (hc : ∀ j, j < L.length → w.cell? ⟨b, j, none⟩ = some (.int .i64 (L.getD j 0))) (h1 : 1 ≤ op) (h2 : op < L.length) :
    Calls Try.prog 106 #[.slice (some ⟨b, 0, none⟩) L.length L.length, .int .i64 op] w fun e w' => e = .returned (.tuple #[.int .i64 (L.getD op.toNat 0), .bool true]) ∧ w' = w := by
  have c0 := hc op.toNat (by omega)
  have d1 : decide (op < 1) = false := by simp; omega
  have d2 : decide ((L.length : Int) ≤ op) = false := by simp; omega
  obtain ⟨x, hx⟩ : ∃ x, x = L.getD op.toNat 0 := ⟨_, rfl⟩
  rw [← hx] at c0 ⊢
  clear hc hx
  go_enter Try.func106, Try.ntmps106
  go_wp2
  go_ret2
  exact ⟨rfl, rfl⟩
theorem pick_no (L : List Int) (op : Int) (b : Nat) (w : World) (hL : L.length ≤ 100) (h : op < 1 ∨ (L.length : Int) ≤ op) :
    Calls Try.prog 106 #[.slice (some ⟨b, 0, none⟩) L.length L.length, .int .i64 op] w fun e w' => e = .returned (.tuple #[.int .i64 0, .bool false]) ∧ w' = w := by
  by_cases h1 : op < 1
  · have d1 : decide (op < 1) = true := decide_eq_true h1
    go_enter Try.func106, Try.ntmps106
    go_wp2
    go_ret2
    exact ⟨rfl, rfl⟩
  · have d1 : decide (op < 1) = false := decide_eq_false h1
    have d2 : decide ((L.length : Int) ≤ op) = true := by simp; omega
    clear h h1
    go_enter Try.func106, Try.ntmps106
    go_wp2
    go_ret2
    exact ⟨rfl, rfl⟩
/-- An operation's fields. -/
def pickL (L : List Int) (op : Int) : Int × Bool := if op < 1 ∨ (L.length : Int) ≤ op then (0, false) else (L.getD op.toNat 0, true)
theorem cells_lit (W : World) (L : List Int) (C : Array Value) (t : TypeId) (hC : C = (L.map (Value.int .i64)).toArray) (b : Nat) (hb : b = W.heap.size) : ∀ j, j < L.length → (W.alloc (.cells C t)).cell? ⟨b, j, none⟩ = some (.int .i64 (L.getD j 0)) := by
  subst hC hb
  intro j hj
  rw [World.cell?_alloc_new]
  simp [List.getD_eq_getElem?_getD, hj]
theorem pick_any (L : List Int) (n : Nat) (hn : L.length = n) (op : Int) (b : Nat) (w : World) (hL : L.length ≤ 100) (hc : ∀ j, j < L.length → w.cell? ⟨b, j, none⟩ = some (.int .i64 (L.getD j 0))) :
    Calls Try.prog 106 #[.slice (some ⟨b, 0, none⟩) n n, .int .i64 op] w fun e w' => e = .returned (.tuple #[.int .i64 (pickL L op).1, .bool (pickL L op).2]) ∧ w' = w := by
  subst hn
  unfold pickL
  by_cases h : op < 1 ∨ (L.length : Int) ≤ op
  · rw [if_pos h]; exact pick_no L op b w hL h
  · rw [if_neg h]; exact pick_yes L op b w hL hc (by omega) (by omega)

/-- What an event's kind and operation have, and whether there are such ones. -/
def fieldsF (k wk op er : Int) : Int × Bool :=
  if k = 1 then (4, op == 0 && wk == 0)
  else if k = 4 then (21, op == 0)
  else if k = 2 then pickL [0, 28, 1, 5, 9, 0, 0, 0] op
  else if k = 3 then (if er = 0 then (pickL [0, 70, 33, 71, 65] op).1 else bits BinOp.andNot IntKind.i64 (pickL [0, 70, 33, 71, 65] op).1 6, (pickL [0, 70, 33, 71, 65] op).2)
  else if k = 5 then (if er = 0 then (pickL [0, 66, 32, 66, 64, 0, 4, 4] op).1 else bits BinOp.andNot IntKind.i64 (pickL [0, 66, 32, 66, 64, 0, 4, 4] op).1 2, (pickL [0, 66, 32, 66, 64, 0, 4, 4] op).2)
  else (0, false)

set_option maxHeartbeats 4000000 in
set_option maxRecDepth 100000 in
theorem fields_any (k wk op hn hg nn ng t a u : Int) (y : Bool) (er : Int) (w : World) :
    Calls Try.prog 92 #[.agg (evC k wk op hn hg nn ng t a u y er)] w fun e w' => e = .returned (.tuple #[.int .i64 (fieldsF k wk op er).1, .bool (fieldsF k wk op er).2]) ∧ Below w.heap.size w w' := by
  have hu := Try.underlying54
  have HB := Aside0.mk (Below.refl w.heap.size w)
  unfold fieldsF
  by_cases k1 : k = 1
  · subst k1
    rw [if_pos rfl]
    cases ho : (op == 0)
    all_goals
      go_enter Try.func92, Try.ntmps92
      go_wp2
      go_quiet (fail)
      go_wp2
      go_ret2
      exact ⟨by simp [*], by repeat (first | exact HB.out | apply below_alloc | apply pw_below_drewN)⟩
  · rw [if_neg k1]
    have b1 : (k == 1) = false := beq_eq_false_iff_ne.2 k1
    clear k1
    by_cases k4 : k = 4
    · subst k4
      rw [if_pos rfl]
      go_enter Try.func92, Try.ntmps92
      go_wp2
      go_ret2
      exact ⟨by simp [*], by repeat (first | exact HB.out | apply below_alloc | apply pw_below_drewN)⟩
    · rw [if_neg k4]
      have b4 : (k == 4) = false := beq_eq_false_iff_ne.2 k4
      clear k4
      by_cases k2 : k = 2
      · subst k2
        rw [if_pos rfl]
        go_enter Try.func92, Try.ntmps92
        go_wp2_with (go_at_call 106; (with_reducible refine (pick_any [0, 28, 1, 5, 9, 0, 0, 0] 8 rfl _ _ _ (by decide) (cells_lit _ [0, 28, 1, 5, 9, 0, 0, 0] _ _ ?c1 _ ?c2)).mono ?_); (case c1 => rfl); (case c2 => simp); rintro e w1 ⟨rfl, rfl⟩)
        go_ret2
        exact ⟨by simp [*], by repeat (first | exact HB.out | apply below_alloc | apply pw_below_drewN)⟩
      · rw [if_neg k2]
        have b2 : (k == 2) = false := beq_eq_false_iff_ne.2 k2
        clear k2
        by_cases k3 : k = 3
        · subst k3
          rw [if_pos rfl]
          cases he : (er == 0)
          · rw [if_neg (beq_eq_false_iff_ne.1 he)]
            have he2 : (er != 0) = true := by simp [bne, he]
            go_enter Try.func92, Try.ntmps92
            go_wp2_with (go_at_call 106; (with_reducible refine (pick_any [0, 70, 33, 71, 65] 5 rfl _ _ _ (by decide) (cells_lit _ [0, 70, 33, 71, 65] _ _ ?c1 _ ?c2)).mono ?_); (case c1 => rfl); (case c2 => simp); rintro e w1 ⟨rfl, rfl⟩)
            go_ret2
            exact ⟨by simp [*], by repeat (first | exact HB.out | apply below_alloc | apply pw_below_drewN)⟩
          · rw [if_pos (beq_iff_eq.1 he)]
            have he2 : (er != 0) = false := by simp [bne, he]
            go_enter Try.func92, Try.ntmps92
            go_wp2_with (go_at_call 106; (with_reducible refine (pick_any [0, 70, 33, 71, 65] 5 rfl _ _ _ (by decide) (cells_lit _ [0, 70, 33, 71, 65] _ _ ?c1 _ ?c2)).mono ?_); (case c1 => rfl); (case c2 => simp); rintro e w1 ⟨rfl, rfl⟩)
            go_ret2
            exact ⟨by simp [*], by repeat (first | exact HB.out | apply below_alloc | apply pw_below_drewN)⟩
        · rw [if_neg k3]
          have b3 : (k == 3) = false := beq_eq_false_iff_ne.2 k3
          clear k3
          by_cases k5 : k = 5
          · subst k5
            rw [if_pos rfl]
            cases he : (er == 0)
            · rw [if_neg (beq_eq_false_iff_ne.1 he)]
              have he2 : (er != 0) = true := by simp [bne, he]
              go_enter Try.func92, Try.ntmps92
              go_wp2_with (go_at_call 106; (with_reducible refine (pick_any [0, 66, 32, 66, 64, 0, 4, 4] 8 rfl _ _ _ (by decide) (cells_lit _ [0, 66, 32, 66, 64, 0, 4, 4] _ _ ?c1 _ ?c2)).mono ?_); (case c1 => rfl); (case c2 => simp); rintro e w1 ⟨rfl, rfl⟩)
              go_ret2
              exact ⟨by simp [*], by repeat (first | exact HB.out | apply below_alloc | apply pw_below_drewN)⟩
            · rw [if_pos (beq_iff_eq.1 he)]
              have he2 : (er != 0) = false := by simp [bne, he]
              go_enter Try.func92, Try.ntmps92
              go_wp2_with (go_at_call 106; (with_reducible refine (pick_any [0, 66, 32, 66, 64, 0, 4, 4] 8 rfl _ _ _ (by decide) (cells_lit _ [0, 66, 32, 66, 64, 0, 4, 4] _ _ ?c1 _ ?c2)).mono ?_); (case c1 => rfl); (case c2 => simp); rintro e w1 ⟨rfl, rfl⟩)
              go_ret2
              exact ⟨by simp [*], by repeat (first | exact HB.out | apply below_alloc | apply pw_below_drewN)⟩
          · rw [if_neg k5]
            have b5 : (k == 5) = false := beq_eq_false_iff_ne.2 k5
            clear k5
            go_enter Try.func92, Try.ntmps92
            go_wp2
            go_ret2
            exact ⟨by simp [*], by repeat (first | exact HB.out | apply below_alloc | apply pw_below_drewN)⟩
end Go.Proofs.Ythniclbmpeklmaa.Ev
