/- What is proved: whether an event is right, as the reference tells it; no conditions. -/
import Derived.Test.YthniclbmpeklmaaEvC
namespace Go.Proofs.Ythniclbmpeklmaa.Ev
open Go.RowKit Go.Proofs.YthniclbmpeklmaaW.PrintWords Go.Proofs.YthniclbmpeklmaaW.PrintLast Go.Proofs.YthniclbmpeklmaaW.PrintMore
set_option linter.unusedVariables false
set_option linter.unusedSimpArgs false
/-- Is there such a kind, with such an operation? -/
def kindB (k wk op : Int) : Bool :=
  (k == 1 && (op == 0 && wk == 0)) || (k == 4 && op == 0) || ((k == 2 || k == 5) && (decide (1 ≤ op) && decide (op ≤ 7))) || (k == 3 && (decide (1 ≤ op) && decide (op ≤ 4)))
/-- Is an event right? -/
def evRight (k wk op hn hg nn ng t a u : Int) (y : Bool) (er : Int) : Bool :=
  kindB k wk op && emptyB k op hn hg nn ng t a u y er && decide (0 ≤ wk) && decide (0 ≤ er) &&
    (k == 2 || ((k == 3 || (decide (0 ≤ hn) && decide (0 ≤ hg))) && (decide (0 ≤ nn) && decide (0 ≤ ng) && decide (0 ≤ a) && decide (0 ≤ u) && (if k = 5 then decide (-1 ≤ t) else decide (0 ≤ t)))))

set_option maxHeartbeats 4000000 in
set_option maxRecDepth 100000 in
theorem kind_any (k wk op hn hg nn ng t a u : Int) (y : Bool) (er : Int) (w : World) :
    Calls Try.prog 89 #[.agg (evC k wk op hn hg nn ng t a u y er)] w fun e w' => e = .returned (.bool (kindB k wk op)) ∧ Below w.heap.size w w' := by
  have hu := Try.underlying50
  have HB := Aside0.mk (Below.refl w.heap.size w)
  go_enter Try.func89, Try.ntmps89
  go_wp2
  all_goals
    go_ret
    exact ⟨by first | (simp [kindB, *]; done) | (simp_all [kindB]; done) | (simp [kindB, *]; rw [Bool.eq_iff_iff]; simp [*]; done) | (simp [kindB, *]; omega), by repeat (first | exact HB.out | apply below_alloc | apply pw_below_drewN)⟩

set_option maxHeartbeats 4000000 in
set_option maxRecDepth 100000 in
theorem right_any (k wk op hn hg nn ng t a u : Int) (y : Bool) (er : Int) (w : World) :
    Calls Try.prog 62 #[.agg (evC k wk op hn hg nn ng t a u y er)] w fun e w' => e = .returned (.bool (evRight k wk op hn hg nn ng t a u y er)) ∧ Below w.heap.size w w' := by
  have hu := Try.underlying50
  have CK := Aside0.mk (fun W => kind_any k wk op hn hg nn ng t a u y er W)
  have CE := Aside0.mk (fun W => empty_any k wk op hn hg nn ng t a u y er W)
  unfold evRight
  obtain ⟨bk, ek⟩ : ∃ b, b = kindB k wk op := ⟨_, rfl⟩
  obtain ⟨be, ee⟩ : ∃ b, b = emptyB k op hn hg nn ng t a u y er := ⟨_, rfl⟩
  rw [← ek] at CK ⊢
  rw [← ee] at CE ⊢
  clear ek ee
  have HB := Aside0.mk (below_alloc (Below.refl w.heap.size w) (.cells (evC k wk op hn hg nn ng t a u y er) 50))
  have HO := Aside0.mk (heap_alloc_new w (.cells (evC k wk op hn hg nn ng t a u y er) 50))
  go_enter Try.func62, Try.ntmps62
  go_wp2_with (first | (go_at_call 89; (with_reducible refine (CK.out _).mono ?_); rintro e w1 ⟨rfl, hb⟩; have n0 := Aside0.mk (below_step HB.out hb); have n1 := Aside0.mk ((hb.block _ (by simp)).trans HO.out); clear HB HO hb; have HB := n0; have HO := n1; clear n0 n1; have hc := fun i => blk_cell HO.out i; have hz := Aside0.mk (blk_lt HO.out)) | (go_at_call 90; (with_reducible refine (CE.out _).mono ?_); rintro e w1 ⟨rfl, hb⟩; have n0 := Aside0.mk (below_step HB.out hb); have n1 := Aside0.mk ((hb.block _ hz.out).trans HO.out); clear hc; clear HB HO hb; have HB := n0; have HO := n1; clear n0 n1; have hc := fun i => blk_cell HO.out i))
  all_goals
    go_ret
    exact ⟨by first | (simp [*]; done) | (simp_all; done) | (simp [*]; omega) | (simp [*]; rw [Bool.eq_iff_iff]; simp [*]; omega), HB.out⟩
end Go.Proofs.Ythniclbmpeklmaa.Ev
