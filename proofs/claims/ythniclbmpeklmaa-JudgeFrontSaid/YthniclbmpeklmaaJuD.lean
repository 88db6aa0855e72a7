/- What is proved: a judge's bench at its beginning, whether a deadline lies within a time, whether an operation may answer so. -/
import Derived.Test.YthniclbmpeklmaaJuC
namespace Go.Proofs.Ythniclbmpeklmaa.Ju
open Go.RowKit Go.Maps Go.Proofs.YthniclbmpeklmaaW.PrintWords Go.Proofs.YthniclbmpeklmaaW.PrintLast Go.Proofs.YthniclbmpeklmaaW.PrintMore Go.Proofs.Ythniclbmpeklmaa.Mp Go.Proofs.Ythniclbmpeklmaa.Au
set_option linter.unusedVariables false
set_option linter.unusedSimpArgs false
attribute [local go_sem high] Ev.eqHa
/-- What a walk over a bench stands on: the bench, and the box of the event. -/
structure Bj (w W : World) (B b n mb m1 m2 m3 : Nat) (s : Be) (pf : Int → Option Nat) (e : Ev) (eb : Nat) : Prop where
  be : BeIs W B b n s mb m1 m2 m3 pf
  eb_ : W.heap[eb]? = some (.cells (evA e) 54 (0, 0))
  bel : Below B w W
  hB : B ≤ w.heap.size
  he : B ≤ eb
section
variable {w W W1 : World} {B b n mb m1 m2 m3 eb : Nat} {s : Be} {pf : Int → Option Nat} {e : Ev}
theorem Bj.start (h : BeIs w B b n s mb m1 m2 m3 pf) (hB : B ≤ w.heap.size) (e : Ev) : Bj w (w.alloc (.cells (evA e) 54)) B b n mb m1 m2 m3 s pf e w.heap.size :=
  ⟨h.alloc _, blk_new _ _, below_then (Below.refl B w) (by omega) (below_alloc (Below.refl _ _) _), hB, hB⟩
theorem Bj.step (h : Bj w W B b n mb m1 m2 m3 s pf e eb) (hb : Below W.heap.size W W1) : Bj w W1 B b n mb m1 m2 m3 s pf e eb := ⟨h.be.below hb, blk_below h.eb_ hb, below_then h.bel (by have := h.bel.size; have := h.hB; omega) hb, h.hB, h.he⟩
theorem Bj.alloc (h : Bj w W B b n mb m1 m2 m3 s pf e eb) (o : Obj) : Bj w (W.alloc o) B b n mb m1 m2 m3 s pf e eb := h.step (below_alloc (Below.refl _ _) o)
theorem Bj.drew (h : Bj w W B b n mb m1 m2 m3 s pf e eb) : Bj w W.drew B b n mb m1 m2 m3 s pf e eb := ⟨h.be.drew, h.eb_, below_drew h.bel, h.hB, h.he⟩
theorem Bj.drewN (h : Bj w W B b n mb m1 m2 m3 s pf e eb) (q : Nat) : Bj w (W.drewN q) B b n mb m1 m2 m3 s pf e eb := ⟨h.be.drewN q, h.eb_, pw_below_drewN h.bel q, h.hB, h.he⟩
theorem Bj.cells (h : Bj w W B b n mb m1 m2 m3 s pf e eb) : (∀ i, W.cell? ⟨b, i, none⟩ = (beA s.nw mb m3)[i]?) ∧ (∀ i, W.cell? ⟨eb, i, none⟩ = (evA e)[i]?) := ⟨fun i => h.be.cell i, fun i => blk_cell h.eb_ i⟩
/-- The model has turned. -/
theorem Bj.model {n' : Nat} {m' : Md} (h : Bj w W B b n mb m1 m2 m3 s pf e eb) (hm : MdIs W1 B mb n' m' m1 m2) (hn : n ≤ n') (hf : Fr W W1 (mdS mb m1 m2)) : Bj w W1 B b n' mb m1 m2 m3 { s with m := m' } pf e eb := by
  refine ⟨h.be.model hm hn hf, hf.blk h.eb_ ?_, h.bel.trans (hf.below ?_ ?_), h.hB, h.he⟩
  · rintro (q | q | q)
    · exact types_ne h.eb_ h.be.md.blk (by decide) q
    · obtain ⟨z, _, hz⟩ := h.be.md.mf; obtain ⟨_, _, hq⟩ := hz.block; exact map_ne h.eb_ hq q
    · obtain ⟨z, _, hz⟩ := h.be.md.ml; obtain ⟨_, _, hq⟩ := hz.block; exact map_ne h.eb_ hq q
  · have := h.bel.size; have := h.hB; omega
  · rintro g (q | q | q)
    · rw [q]; exact h.be.md.hb
    · rw [q]; exact h.be.md.h1
    · rw [q]; exact h.be.md.h2
end
/-- .. and a worker's work. -/
structure Wj (w W : World) (B b n mb m1 m2 m3 : Nat) (s : Be) (pf : Int → Option Nat) (e : Ev) (eb g : Nat) (iv : Ev) (beg : Int) (pp : Option Addr) : Prop where
  bj : Bj w W B b n mb m1 m2 m3 s pf e eb
  gb : W.heap[g]? = some (.cells (wkA iv beg pp) 119 (0, 0))
section
variable {w W W1 : World} {B b n mb m1 m2 m3 eb g : Nat} {s : Be} {pf : Int → Option Nat} {e iv : Ev} {beg : Int} {pp : Option Addr}
theorem Wj.step (h : Wj w W B b n mb m1 m2 m3 s pf e eb g iv beg pp) (hb : Below W.heap.size W W1) : Wj w W1 B b n mb m1 m2 m3 s pf e eb g iv beg pp := ⟨h.bj.step hb, blk_below h.gb hb⟩
theorem Wj.drew (h : Wj w W B b n mb m1 m2 m3 s pf e eb g iv beg pp) : Wj w W.drew B b n mb m1 m2 m3 s pf e eb g iv beg pp := ⟨h.bj.drew, h.gb⟩
theorem Wj.drewN (h : Wj w W B b n mb m1 m2 m3 s pf e eb g iv beg pp) (q : Nat) : Wj w (W.drewN q) B b n mb m1 m2 m3 s pf e eb g iv beg pp := ⟨h.bj.drewN q, h.gb⟩
theorem Wj.cells (h : Wj w W B b n mb m1 m2 m3 s pf e eb g iv beg pp) : (∀ i, W.cell? ⟨b, i, none⟩ = (beA s.nw mb m3)[i]?) ∧ (∀ i, W.cell? ⟨eb, i, none⟩ = (evA e)[i]?) ∧ (∀ i, W.cell? ⟨g, i, none⟩ = (wkA iv beg pp)[i]?) := ⟨h.bj.cells.1, h.bj.cells.2, fun i => blk_cell h.gb i⟩
theorem Wj.model {n' : Nat} {m' : Md} (h : Wj w W B b n mb m1 m2 m3 s pf e eb g iv beg pp) (hm : MdIs W1 B mb n' m' m1 m2) (hn : n ≤ n') (hf : Fr W W1 (mdS mb m1 m2)) : Wj w W1 B b n' mb m1 m2 m3 { s with m := m' } pf e eb g iv beg pp := by
  refine ⟨h.bj.model hm hn hf, hf.blk h.gb ?_⟩
  rintro (q | q | q)
  · exact types_ne h.gb h.bj.be.md.blk (by decide) q
  · obtain ⟨z, _, hz⟩ := h.bj.be.md.mf; obtain ⟨_, _, hq⟩ := hz.block; exact map_ne h.gb hq q
  · obtain ⟨z, _, hz⟩ := h.bj.be.md.ml; obtain ⟨_, _, hq⟩ := hz.block; exact map_ne h.gb hq q
end
/-- What a bench's function leaves. -/
def BePost (w : World) (B b n mb m1 m2 m3 : Nat) (p : Be × Int) (r : Ending) (w' : World) : Prop := r = .returned (.int .i64 p.2) ∧ (∃ pf, BeIs w' B b (n + 4) p.1 mb m1 m2 m3 pf) ∧ Below B w w'
theorem BePost.of {w W : World} {B b n mb m1 m2 m3 : Nat} {p q : Be × Int} (h : p = q) {v : Int} (hv : v = q.2) {pf : Int → Option Nat} (hm : BeIs W B b (n + 4) q.1 mb m1 m2 m3 pf) (hf : Below B w W) : BePost w B b n mb m1 m2 m3 p (.returned (.int .i64 v)) W := by
  subst h
  subst hv
  exact ⟨rfl, ⟨pf, hm⟩, hf⟩

set_option maxHeartbeats 4000000 in
set_option maxRecDepth 100000 in
theorem judge_new_no (n : Int) (h : n < 1 ∨ 64 < n) (w : World) : Calls Try.prog 26 #[.int .i64 n] w fun r w' => r = .returned (.tuple #[.pointer none, .int .i64 1]) ∧ w' = w := by
  by_cases h1 : n < 1
  · have g1 : decide (n < 1) = true := decide_eq_true h1
    clear h h1
    go_enter Try.func26, Try.ntmps26
    go_wp2
    go_ret2
    exact ⟨rfl, rfl⟩
  · have g1 : decide (n < 1) = false := decide_eq_false h1
    have g2 : decide (n > 64) = true := decide_eq_true (by omega)
    clear h h1
    go_enter Try.func26, Try.ntmps26
    go_wp2
    go_ret2
    exact ⟨rfl, rfl⟩

set_option maxHeartbeats 4000000 in
set_option maxRecDepth 100000 in
theorem judge_new (n : Int) (h : ¬ (n < 1 ∨ 64 < n)) (w : World) : Calls Try.prog 26 #[.int .i64 n] w fun r w' => ∃ b mb m1 m2 m3, r = .returned (.tuple #[pA b, .int .i64 0]) ∧ BeIs w' w.heap.size b 0 (be0 n) mb m1 m2 m3 (fun _ => none) ∧ Below w.heap.size w w' := by
  have hmm := @run_makeMap Try.prog
  have hu0 := Try.underlying61
  have g1 : decide (n < 1) = false := decide_eq_false (by omega)
  have g2 : decide (n > 64) = false := decide_eq_false (by omega)
  have CM := Aside0.mk (model_new w)
  clear h
  go_enter Try.func26, Try.ntmps26
  go_wp2_with (go_at_call 40; (with_reducible refine CM.out.mono ?_); rintro r w2 ⟨rfl, hm, hb⟩; have HM := Aside0.mk (And.intro hm hb); have hz := (And.intro hm hb).2.size; clear hm hb)
  go_ret2
  have hm := HM.out.1
  have hb := HM.out.2
  have hl1 := hm.lt1
  have hl2 := hm.lt2
  have q3 := (MapIs.made (c := Value.int .i64) w2 Try.prog 3).move (w' := (w2.alloc (.map #[] 0)).alloc (.cells (beA n (w.heap.size + 1 + 1) w2.heap.size) 61)) (by rw [Below.heap_alloc _ _ _ (by simp)])
  have qb := blk_new (w2.alloc (.map #[] 0)) (.cells (beA n (w.heap.size + 1 + 1) w2.heap.size) 61)
  rw [show (w2.alloc (.map #[] 0)).heap.size = w2.heap.size + 1 by simp] at qb
  have hpn : pV (fun _ => none) = (fun _ => none : Int → Option Value) := rfl
  exact ⟨_, _, _, _, _, rfl, ⟨qb, (hm.alloc _).alloc _, ⟨[], List.nodup_nil, Nat.le_refl _, fun x => by simp, by rw [hpn]; exact q3⟩, fun x => .inl ⟨rfl, rfl⟩, fun x y g hx => (by cases hx), by omega, by omega, by omega, by omega⟩, below_alloc (below_alloc hb _) _⟩

set_option maxHeartbeats 4000000 in
set_option maxRecDepth 100000 in
theorem within_no (d t f g : Int) (h : decide (t ≤ wrap64 (d - f)) = false) (w : World) : Calls Try.prog 95 #[.int .i64 d, .int .i64 t, .int .i64 f, .int .i64 g] w fun r w' => r = .returned (.bool (withinB d t f g)) ∧ w' = w := by
  have HW := Aside0.mk (show withinB d t f g = (false && decide (wrap64 (d - g) ≤ t)) by unfold withinB; rw [h])
  go_enter Try.func95, Try.ntmps95
  go_wp2
  go_ret
  exact ⟨by rw [HW.out]; rfl, rfl⟩

set_option maxHeartbeats 4000000 in
set_option maxRecDepth 100000 in
theorem within_yes (d t f g : Int) (h : decide (t ≤ wrap64 (d - f)) = true) (w : World) : Calls Try.prog 95 #[.int .i64 d, .int .i64 t, .int .i64 f, .int .i64 g] w fun r w' => r = .returned (.bool (withinB d t f g)) ∧ w' = w := by
  have HW := Aside0.mk (show withinB d t f g = (true && decide (wrap64 (d - g) ≤ t)) by unfold withinB; rw [h])
  go_enter Try.func95, Try.ntmps95
  go_wp2
  go_ret
  exact ⟨by rw [HW.out]; rfl, rfl⟩

theorem within_any (d t f g : Int) (w : World) : Calls Try.prog 95 #[.int .i64 d, .int .i64 t, .int .i64 f, .int .i64 g] w fun r w' => r = .returned (.bool (withinB d t f g)) ∧ w' = w := by
  cases h : decide (t ≤ wrap64 (d - f)) with
  | false => exact within_no d t f g h w
  | true => exact within_yes d t f g h w

set_option maxHeartbeats 4000000 in
set_option maxRecDepth 100000 in
theorem answers_none {w : World} {g : Nat} (iv : Ev) (beg : Int) (e : Ev) (hg : w.heap[g]? = some (.cells (wkA iv beg none) 119 (0, 0)))  :
    Calls Try.prog 67 #[pA g, .agg (evA e)] w fun r w' => r = .returned (.bool false) ∧ Below w.heap.size w w' := by
  have hu0 := Try.underlying119
  have hu1 := Try.underlying34
  have hu2 := Try.underlying54
  have hcg := fun i => blk_cell hg i
  have hlg := blk_lt hg
  clear hg
  go_enter Try.func67, Try.ntmps67
  go_wp2
  go_quiet (fail)
  go_wp2
  go_ret
  exact ⟨rfl, by repeat (first | exact Below.refl _ _ | apply below_alloc | apply pw_below_drewN)⟩

set_option maxHeartbeats 4000000 in
set_option maxRecDepth 100000 in
theorem answers_handle {w : World} {g q : Nat} (iv ev : Ev) (beg : Int) (e : Ev) (hg : w.heap[g]? = some (.cells (wkA iv beg (some ⟨q, 0, none⟩)) 119 (0, 0))) (hq : w.heap[q]? = some (.cells (evA ev) 54 (0, 0))) (h1 : (ev.nn == e.nn && (ev.ng == e.ng)) = false) :
    Calls Try.prog 67 #[pA g, .agg (evA e)] w fun r w' => r = .returned (.bool false) ∧ Below w.heap.size w w' := by
  have hu0 := Try.underlying119
  have hu1 := Try.underlying34
  have hu2 := Try.underlying54
  have hcg := fun i => blk_cell hg i
  have hlg := blk_lt hg
  have hcq := fun i => blk_cell hq i
  have hlq := blk_lt hq
  clear hg hq
  go_enter Try.func67, Try.ntmps67
  go_wp2
  go_quiet (fail)
  go_wp2
  go_ret
  exact ⟨rfl, by repeat (first | exact Below.refl _ _ | apply below_alloc | apply pw_below_drewN)⟩

set_option maxHeartbeats 4000000 in
set_option maxRecDepth 100000 in
theorem answers_yes {w : World} {g q : Nat} (iv ev : Ev) (beg : Int) (e : Ev) (hg : w.heap[g]? = some (.cells (wkA iv beg (some ⟨q, 0, none⟩)) 119 (0, 0))) (hq : w.heap[q]? = some (.cells (evA ev) 54 (0, 0))) (h1 : (ev.nn == e.nn && (ev.ng == e.ng)) = true) (h2 : (ev.y == e.y) = false) :
    Calls Try.prog 67 #[pA g, .agg (evA e)] w fun r w' => r = .returned (.bool false) ∧ Below w.heap.size w w' := by
  have hu0 := Try.underlying119
  have hu1 := Try.underlying34
  have hu2 := Try.underlying54
  have hcg := fun i => blk_cell hg i
  have hlg := blk_lt hg
  have hcq := fun i => blk_cell hq i
  have hlq := blk_lt hq
  clear hg hq
  go_enter Try.func67, Try.ntmps67
  go_wp2
  go_quiet (fail)
  go_wp2
  go_ret
  exact ⟨rfl, by repeat (first | exact Below.refl _ _ | apply below_alloc | apply pw_below_drewN)⟩

set_option maxHeartbeats 4000000 in
set_option maxRecDepth 100000 in
theorem answers_err {w : World} {g q : Nat} (iv ev : Ev) (beg : Int) (e : Ev) (hg : w.heap[g]? = some (.cells (wkA iv beg (some ⟨q, 0, none⟩)) 119 (0, 0))) (hq : w.heap[q]? = some (.cells (evA ev) 54 (0, 0))) (h1 : (ev.nn == e.nn && (ev.ng == e.ng)) = true) (h2 : (ev.y == e.y) = true) :
    Calls Try.prog 67 #[pA g, .agg (evA e)] w fun r w' => r = .returned (.bool (ev.er == e.er)) ∧ Below w.heap.size w w' := by
  have hu0 := Try.underlying119
  have hu1 := Try.underlying34
  have hu2 := Try.underlying54
  have hcg := fun i => blk_cell hg i
  have hlg := blk_lt hg
  have hcq := fun i => blk_cell hq i
  have hlq := blk_lt hq
  clear hg hq
  go_enter Try.func67, Try.ntmps67
  go_wp2
  go_quiet (fail)
  go_wp2
  go_ret
  exact ⟨rfl, by repeat (first | exact Below.refl _ _ | apply below_alloc | apply pw_below_drewN)⟩

theorem answers_any {w : World} {B g : Nat} {k : Wk} (h : WkIs w B g k) (e : Ev) : Calls Try.prog 67 #[pA g, .agg (evA e)] w fun r w' => r = .returned (.bool (answersB k e)) ∧ Below w.heap.size w w' := by
  obtain ⟨_, iv, pp, hg, _, _, _, _, ⟨rfl, hp⟩ | ⟨q, ev, rfl, _, hq, hp⟩⟩ := h
  · have hr : answersB k e = false := by unfold answersB; rw [hp]
    rw [hr]
    exact answers_none iv k.beg e hg
  · have hr : answersB k e = ((ev.nn == e.nn && (ev.ng == e.ng)) && ((ev.y == e.y) && (ev.er == e.er))) := by unfold answersB; rw [hp]; unfold ptOf; simp [Bool.and_assoc]
    rw [hr]
    cases h1 : (ev.nn == e.nn && (ev.ng == e.ng)) with
    | false => exact answers_handle iv ev k.beg e hg hq h1
    | true =>
      cases h2 : (ev.y == e.y) with
      | false => exact answers_yes iv ev k.beg e hg hq h1 h2
      | true => exact answers_err iv ev k.beg e hg hq h1 h2

end Go.Proofs.Ythniclbmpeklmaa.Ju
