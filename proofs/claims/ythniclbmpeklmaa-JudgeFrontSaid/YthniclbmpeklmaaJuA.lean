/- What is proved: what the small functions of a model of timers do with it in memory. -/
import Derived.Test.YthniclbmpeklmaaJuM
import Derived.StillTailTactics
import Derived.Deep.QuietTactic
import Derived.BigQuiet
namespace Go.Proofs.Ythniclbmpeklmaa.Ju
open Go.RowKit Go.Maps Go.Proofs.YthniclbmpeklmaaW.PrintWords Go.Proofs.YthniclbmpeklmaaW.PrintLast Go.Proofs.YthniclbmpeklmaaW.PrintMore Go.Proofs.Ythniclbmpeklmaa.Mp Go.Proofs.Ythniclbmpeklmaa.Au
set_option linter.unusedVariables false
set_option linter.unusedSimpArgs false
abbrev pA (b : Nat) : Value := .pointer (some ⟨b, 0, none⟩)
/-- A region that draws: all but its last operations only read; the world behind the draw under a name of its own. -/
theorem still_tail_at' {P : Program} {id : Nat} {Q : Exit → Act → World → Prop} {a : Act} {w : World} {l : List Oper} (n : Nat) (hm : P.follows .mixedOrders = true) (hB : Region.lexTailB .any l.toArray n = true)
    (h : ∀ w2, w2 = w.drew → wpStill P l.toArray w2 (fun a' => wpList P l.toArray Q (l.drop n) a' w2) (l.take n) a) : (Code.region id l.toArray true).wp P Q a w :=
  wp_region_still_tail n hm hB (h _ rfl)
/-- A model's post: the result, the model, what else has turned. -/
def MdPost (w : World) (B b n : Nat) (m : Md) (m1 m2 : Nat) (v : Value) (r : Ending) (w' : World) : Prop := r = .returned v ∧ MdIs w' B b n m m1 m2 ∧ Fr w w' (mdS b m1 m2)
theorem fate_field (a d : Int) (W : World) : (Instr.field 122 (.agg #[.int .i64 a, .int .i64 d]) 0).run Try.prog W = .ok (.int .i64 a) W := by first | kernel_rfl | rfl | (have hu2 := Try.underlying122; simp [Instr.field, go_sem, hu2])

set_option maxHeartbeats 4000000 in
set_option maxRecDepth 100000 in
theorem model_new (w : World) : Calls Try.prog 40 #[] w fun r w' => r = .returned (pA (w.heap.size + 1 + 1)) ∧ MdIs w' w.heap.size (w.heap.size + 1 + 1) 0 md0 w.heap.size (w.heap.size + 1) ∧ Below w.heap.size w w' := by
  have hmm := @run_makeMap Try.prog
  have hu0 := Try.underlying125
  go_enter Try.func40, Try.ntmps40
  go_wp2
  go_ret
  have q1 := (MapIs.made (c := haV) w Try.prog 34).move (w' := ((w.alloc (.map #[] 0)).alloc (.map #[] 0)).alloc (.cells (mdA md0 w.heap.size (w.heap.size + 1)) 125)) (by rw [Below.heap_alloc _ _ _ (by simp; omega), Below.heap_alloc _ _ _ (by simp)])
  have q2 := (MapIs.made (c := Value.int .i64) (w.alloc (.map #[] 0)) Try.prog 3).move (w' := ((w.alloc (.map #[] 0)).alloc (.map #[] 0)).alloc (.cells (mdA md0 w.heap.size (w.heap.size + 1)) 125)) (by rw [Below.heap_alloc _ _ _ (by simp)])
  rw [show (w.alloc (.map #[] 0)).heap.size = w.heap.size + 1 by simp] at q2
  refine ⟨rfl, ⟨by have q := blk_new ((w.alloc (.map #[] 0)).alloc (.map #[] 0)) (.cells (mdA md0 w.heap.size (w.heap.size + 1)) 125); rw [show ((w.alloc (.map #[] 0)).alloc (.map #[] 0)).heap.size = w.heap.size + 1 + 1 by simp] at q; exact q, ⟨0, Nat.le_refl _, q1⟩, ⟨0, Nat.le_refl _, q2⟩, by omega, by omega, by omega, by omega⟩, below_alloc (below_alloc (below_alloc (Below.refl _ _) _) _) _⟩

set_option maxHeartbeats 4000000 in
set_option maxRecDepth 100000 in
theorem model_clock {w : World} {B b n m1 m2 : Nat} {m : Md} (h : MdIs w B b n m m1 m2) : Calls Try.prog 41 #[pA b] w fun r w' => r = .returned (.int .i64 m.clk) ∧ w = w' := by
  have hu0 := Try.underlying125
  have hc := fun i => h.cell i
  have hlt := h.lt
  clear h
  go_enter Try.func41, Try.ntmps41
  go_wp2
  go_ret
  exact ⟨rfl, rfl⟩

set_option maxHeartbeats 4000000 in
set_option maxRecDepth 100000 in
theorem model_status {w : World} {B b n m1 m2 : Nat} {m : Md} (x y : Int) (hx : (Lit.int .i64 x).wf = true) (hy : (Lit.int .i64 y).wf = true) (h : MdIs w B b n m m1 m2) : Calls Try.prog 33 #[pA b, .agg #[.int .i64 x, .int .i64 y]] w fun r w' => r = .returned (.int .i64 (m.st (x, y))) ∧ Below w.heap.size w w' := by
  have hu0 := Try.underlying125
  have hu1 := Try.underlying34
  have hu3 := Try.underlying122
  obtain ⟨kl, hk⟩ := keyH x y hx hy
  have hl := fun q => h.look hk ((w.alloc (.cells #[.int .i64 x, .int .i64 y] 34)).drewN q) (Below.heap_alloc w _ m1 h.lt1)
  obtain ⟨s, hs⟩ : ∃ s, m.st (x, y) = s := ⟨_, rfl⟩
  obtain ⟨d, hd⟩ : ∃ d, m.dl (x, y) = d := ⟨_, rfl⟩
  rw [hs, hd] at hl
  rw [hs]
  have hff := fun W => fate_field s d W
  have hc := fun i => h.cell i
  have hlt := h.lt
  clear h hk hs hd hx hy
  go_enter Try.func33, Try.ntmps33
  go_wp2
  go_quiet (fail)
  go_wp2
  go_ret
  exact ⟨rfl, by repeat (first | exact Below.refl _ _ | apply below_alloc | apply pw_below_drewN)⟩

set_option maxHeartbeats 4000000 in
set_option maxRecDepth 100000 in
theorem model_nothing (w : World) : Calls Try.prog 100 #[] w fun r w' => r = .returned (.tuple #[]) ∧ w' = w := by
  go_enter Try.func100, Try.ntmps100
  go_wp2
  go_end0
  exact ⟨rfl, rfl⟩

set_option maxHeartbeats 4000000 in
set_option maxRecDepth 100000 in
theorem unless_no (fn : Fn) (first cap : Array Value) (w : World) : Calls Try.prog 73 #[.bool false, .func fn first cap] w fun r w' => r = .returned (.int .i64 6) ∧ w' = w := by
  go_enter Try.func73, Try.ntmps73
  go_wp2
  go_ret
  exact ⟨rfl, rfl⟩

set_option maxHeartbeats 4000000 in
set_option maxRecDepth 100000 in
theorem unless_tick (cap : Array Value) (w : World) (Q : World → Prop) (h : Calls Try.prog 74 cap w fun r w' => r = .returned (.tuple #[]) ∧ Q w') : Calls Try.prog 73 #[.bool true, .func (.func 74) #[] cap] w fun r w' => r = .returned (.int .i64 0) ∧ Q w' := by
  have H := Aside0.mk (show Calls Try.prog 74 cap w fun r w' => r = .returned (.tuple #[]) ∧ Q w' from h)
  clear h
  go_enter Try.func73, Try.ntmps73
  go_wp2_with (go_at_call 74; (with_reducible refine H.out.mono ?_); rintro r w2 ⟨rfl, hq⟩; have HQ := Aside0.mk hq; clear hq)
  go_ret
  exact ⟨rfl, HQ.out⟩

set_option maxHeartbeats 4000000 in
set_option maxRecDepth 100000 in
theorem unless_end (cap : Array Value) (w : World) (Q : World → Prop) (h : Calls Try.prog 99 cap w fun r w' => r = .returned (.tuple #[]) ∧ Q w') : Calls Try.prog 73 #[.bool true, .func (.func 99) #[] cap] w fun r w' => r = .returned (.int .i64 0) ∧ Q w' := by
  have H := Aside0.mk (show Calls Try.prog 99 cap w fun r w' => r = .returned (.tuple #[]) ∧ Q w' from h)
  clear h
  go_enter Try.func73, Try.ntmps73
  go_wp2_with (go_at_call 99; (with_reducible refine H.out.mono ?_); rintro r w2 ⟨rfl, hq⟩; have HQ := Aside0.mk hq; clear hq)
  go_ret
  exact ⟨rfl, HQ.out⟩

set_option maxHeartbeats 4000000 in
set_option maxRecDepth 100000 in
theorem unless_nothing (cap : Array Value) (w : World) (Q : World → Prop) (h : Calls Try.prog 100 cap w fun r w' => r = .returned (.tuple #[]) ∧ Q w') : Calls Try.prog 73 #[.bool true, .func (.func 100) #[] cap] w fun r w' => r = .returned (.int .i64 0) ∧ Q w' := by
  have H := Aside0.mk (show Calls Try.prog 100 cap w fun r w' => r = .returned (.tuple #[]) ∧ Q w' from h)
  clear h
  go_enter Try.func73, Try.ntmps73
  go_wp2_with (go_at_call 100; (with_reducible refine H.out.mono ?_); rintro r w2 ⟨rfl, hq⟩; have HQ := Aside0.mk hq; clear hq)
  go_ret
  exact ⟨rfl, HQ.out⟩

set_option maxHeartbeats 4000000 in
set_option maxRecDepth 100000 in
theorem unless_start (cap : Array Value) (w : World) (Q : World → Prop) (h : Calls Try.prog 101 cap w fun r w' => r = .returned (.tuple #[]) ∧ Q w') : Calls Try.prog 73 #[.bool true, .func (.func 101) #[] cap] w fun r w' => r = .returned (.int .i64 0) ∧ Q w' := by
  have H := Aside0.mk (show Calls Try.prog 101 cap w fun r w' => r = .returned (.tuple #[]) ∧ Q w' from h)
  clear h
  go_enter Try.func73, Try.ntmps73
  go_wp2_with (go_at_call 101; (with_reducible refine H.out.mono ?_); rintro r w2 ⟨rfl, hq⟩; have HQ := Aside0.mk hq; clear hq)
  go_ret
  exact ⟨rfl, HQ.out⟩

set_option maxHeartbeats 4000000 in
set_option maxRecDepth 100000 in
theorem unless_rearm (cap : Array Value) (w : World) (Q : World → Prop) (h : Calls Try.prog 103 cap w fun r w' => r = .returned (.tuple #[]) ∧ Q w') : Calls Try.prog 73 #[.bool true, .func (.func 103) #[] cap] w fun r w' => r = .returned (.int .i64 0) ∧ Q w' := by
  have H := Aside0.mk (show Calls Try.prog 103 cap w fun r w' => r = .returned (.tuple #[]) ∧ Q w' from h)
  clear h
  go_enter Try.func73, Try.ntmps73
  go_wp2_with (go_at_call 103; (with_reducible refine H.out.mono ?_); rintro r w2 ⟨rfl, hq⟩; have HQ := Aside0.mk hq; clear hq)
  go_ret
  exact ⟨rfl, HQ.out⟩

set_option maxHeartbeats 4000000 in
set_option maxRecDepth 100000 in
theorem tick_any {w : World} {B b n m1 m2 eb xb : Nat} {m : Md} (e : Ev) (h : MdIs w B b n m m1 m2) (he : w.heap[eb]? = some (.cells (evA e) 54 (0, 0))) (hx : w.heap[xb]? = some (.cells #[pA b] 58 (0, 0))) : Calls Try.prog 74 #[pA eb, pA xb] w fun r w' => r = .returned (.tuple #[]) ∧ MdIs w' B b n { m with clk := e.t } m1 m2 ∧ Fr w w' (mdS b m1 m2) := by
  have hu0 := Try.underlying125
  have hu2 := Try.underlying54
  have H := Aside0.mk h
  have hc := fun i => h.cell i
  have hf := fun i => blk_frozen h.blk i
  have hce := fun i => blk_cell he i
  have hcx := fun i => blk_cell hx i
  have hlt := h.lt
  have hle := blk_lt he
  have hlx := blk_lt hx
  clear h he hx
  go_enter Try.func74, Try.ntmps74
  go_wp2
  go_end0
  exact ⟨rfl, H.out.clock e.t, (Fr.refl _ _).set _ _ (.inr (.inl rfl))⟩

set_option maxHeartbeats 4000000 in
set_option maxRecDepth 100000 in
theorem end1_any {w : World} {B b n m1 m2 sb xb hb : Nat} {m : Md} (s x y : Int) (hn : n ≤ 1000000) (hx : (Lit.int .i64 x).wf = true) (hy : (Lit.int .i64 y).wf = true) (h : MdIs w B b n m m1 m2) (h1 : w.heap[sb]? = some (.cells #[.int .i64 s] 3 (0, 0))) (h2 : w.heap[xb]? = some (.cells #[pA b] 58 (0, 0))) (h3 : w.heap[hb]? = some (.cells #[.int .i64 x, .int .i64 y] 34 (0, 0))) :
    Calls Try.prog 99 #[pA sb, pA xb, pA hb] w fun r w' => r = .returned (.tuple #[]) ∧ MdIs w' B b (n + 1) (m.end_ (x, y) s) m1 m2 ∧ Fr w w' (mdS b m1 m2) := by
  have hu0 := Try.underlying125
  have hu1 := Try.underlying34
  have hu3 := Try.underlying122
  have H := Aside0.mk h
  have HK := Aside0.mk (keyH x y hx hy)
  have HN := Aside0.mk hn
  have hlt := h.lt
  have hl1 := blk_lt h1
  have hl2 := blk_lt h2
  have hl3 := blk_lt h3
  have hc := fun i => h.cell i
  have hc1 := fun i => blk_cell h1 i
  have hc2 := fun i => blk_cell h2 i
  have hc3 := fun i => blk_cell h3 i
  clear h h1 h2 h3 hx hy hn
  go_enter Try.func99, Try.ntmps99
  refine still_tail_at' 7 (by kernel_rfl) (by kernel_rfl) fun w2 hw2 => ?_
  have H2 := Aside0.mk (show MdIs w2 B b n m m1 m2 by rw [hw2]; exact H.out.drew)
  have HF2 := Aside0.mk (show Fr w w2 (mdS b m1 m2) by rw [hw2]; exact (Fr.refl _ _).drew)
  have hd := fun i => H2.out.cell i
  have hd1 : ∀ i, w2.cell? ⟨sb, i, none⟩ = #[Value.int .i64 s][i]? := by intro i; rw [hw2]; exact hc1 i
  have hd2 : ∀ i, w2.cell? ⟨xb, i, none⟩ = #[pA b][i]? := by intro i; rw [hw2]; exact hc2 i
  have hd3 : ∀ i, w2.cell? ⟨hb, i, none⟩ = #[Value.int .i64 x, Value.int .i64 y][i]? := by intro i; rw [hw2]; exact hc3 i
  have hz : w2.heap.size = w.heap.size := by rw [hw2]; rfl
  rw [← hz] at hlt hl1 hl2 hl3
  clear hw2 hc hc1 hc2 hc3 H hz
  simp only [List.take_succ_cons, List.take_zero, List.drop_succ_cons, List.drop_zero]
  repeat still_step
  refine wpStill_nil ?_
  obtain ⟨z1, hz1, hm1⟩ := H2.out.mf
  obtain ⟨kl, hkl⟩ := HK.out
  refine wpl_store ha_inj rfl _ _ _ 123 rfl hm1 lawH Try.underlying123 (by unfold maxLen; have := HN.out; omega) (y := (x, y)) hkl (val := faV (s, 0)) rfl rfl rfl ?_
  intro w4 hm4 hg4
  rw [fV_upd] at hm4
  have HM4 := Aside0.mk (H2.out.putF hm4 (by split <;> omega) hg4)
  have HF4 := Aside0.mk (HF2.out.trans ((Fr.of_grown hg4).mono (fun g q => .inr (.inl (Option.some.inj q)))))
  clear hm4 hg4 hm1 hz1 H2 HF2 hkl hd hd1 hd2 hd3
  go_wp2
  go_end0
  exact ⟨rfl, HM4.out, HF4.out⟩

set_option maxHeartbeats 4000000 in
set_option maxRecDepth 100000 in
theorem end_any (b : Nat) (x y s : Int) (w : World) : Calls Try.prog 75 #[pA b, .agg #[.int .i64 x, .int .i64 y], .int .i64 s] w fun r w' => r = .returned (.func (.func 99) #[] #[pA (w.heap.size + 1 + 1), pA w.heap.size, pA (w.heap.size + 1)]) ∧ ((w.alloc (.cells #[pA b] 58)).alloc (.cells #[.int .i64 x, .int .i64 y] 34)).alloc (.cells #[.int .i64 s] 3) = w' := by
  have hu1 := Try.underlying34
  have hmf : ∀ (fn : Fn) (first cap : Array Value) (w : World), (Instr.makeFunc fn first cap).run Try.prog w = .ok (.func fn first cap) w := fun _ _ _ _ => rfl
  go_enter Try.func75, Try.ntmps75
  go_wp2
  go_ret
  exact ⟨rfl, rfl⟩

set_option maxHeartbeats 4000000 in
set_option maxRecDepth 100000 in
theorem arm_any {w : World} {B b n m1 m2 : Nat} {m : Md} (x y d : Int) (hn : n ≤ 1000000) (hx : (Lit.int .i64 x).wf = true) (hy : (Lit.int .i64 y).wf = true) (h : MdIs w B b n m m1 m2) :
    Calls Try.prog 102 #[pA b, .agg #[.int .i64 x, .int .i64 y], .int .i64 d] w fun r w' => r = .returned (.tuple #[]) ∧ MdIs w' B b (n + 2) (m.arm (x, y) d) m1 m2 ∧ Fr w w' (mdS b m1 m2) := by
  have hu0 := Try.underlying125
  have hu1 := Try.underlying34
  have hu3 := Try.underlying122
  have H := Aside0.mk (h.alloc (.cells #[.int .i64 x, .int .i64 y] 34))
  have HF := Aside0.mk ((Fr.refl w (mdS b m1 m2)).alloc (.cells #[.int .i64 x, .int .i64 y] 34))
  have HO := Aside0.mk (blk_new w (.cells #[.int .i64 x, .int .i64 y] 34))
  have HK := Aside0.mk (keyH x y hx hy)
  have HX := Aside0.mk hx
  have HN := Aside0.mk hn
  clear h hx hy hn
  go_enter Try.func102, Try.ntmps102
  go_wp2
  refine still_tail_at' 7 (by kernel_rfl) (by kernel_rfl) fun w2 hw2 => ?_
  have H2 := Aside0.mk (show MdIs w2 B b n m m1 m2 by rw [hw2]; exact H.out.drew)
  have HF2 := Aside0.mk (show Fr w w2 (mdS b m1 m2) by rw [hw2]; exact HF.out.drew)
  have HO2 := Aside0.mk (show w2.heap[w.heap.size]? = some (.cells #[.int .i64 x, .int .i64 y] 34 (0, 0)) by rw [hw2]; exact HO.out)
  clear hw2 H HF HO
  have hd := fun i => H2.out.cell i
  have hd2 := fun i => blk_cell HO2.out i
  have hlt := H2.out.lt
  have hl2 := blk_lt HO2.out
  simp only [List.take_succ_cons, List.take_zero, List.drop_succ_cons, List.drop_zero]
  repeat still_step
  refine wpStill_nil ?_
  obtain ⟨z1, hz1, hm1⟩ := H2.out.mf
  obtain ⟨kl, hkl⟩ := HK.out
  refine wpl_store ha_inj rfl _ _ _ 123 rfl hm1 lawH Try.underlying123 (by unfold maxLen; have := HN.out; omega) (y := (x, y)) hkl (val := faV (1, d)) rfl rfl rfl ?_
  intro w4 hm4 hg4
  rw [fV_upd] at hm4
  have HM4 := Aside0.mk (H2.out.putF hm4 (by split <;> omega) hg4)
  have HF4 := Aside0.mk (HF2.out.trans ((Fr.of_grown hg4).mono (fun g q => .inr (.inl (Option.some.inj q)))))
  have HO4 := Aside0.mk (blk_grown HO2.out hg4 (fun q => by obtain ⟨_, _, q2⟩ := hm1.block; exact map_ne HO2.out q2 (Option.some.inj q)))
  clear hm4 hg4 hm1 hz1 H2 HF2 HO2 hkl hd hd2 hlt hl2
  go_wp2
  refine still_tail_at' 8 (by kernel_rfl) (by kernel_rfl) fun w5 hw5 => ?_
  have H5 := Aside0.mk (show MdIs w5 B b (n + 1) _ m1 m2 by rw [hw5]; exact HM4.out.drew)
  have HF5 := Aside0.mk (show Fr w w5 (mdS b m1 m2) by rw [hw5]; exact HF4.out.drew)
  have HO5 := Aside0.mk (show w5.heap[w.heap.size]? = some (.cells #[.int .i64 x, .int .i64 y] 34 (0, 0)) by rw [hw5]; exact HO4.out)
  clear hw5 HM4 HF4 HO4
  have hd := fun i => H5.out.cell i
  have hd2 := fun i => blk_cell HO5.out i
  have hlt := H5.out.lt
  have hl2 := blk_lt HO5.out
  simp only [List.take_succ_cons, List.take_zero, List.drop_succ_cons, List.drop_zero]
  repeat still_step
  refine wpStill_nil ?_
  obtain ⟨z2, hz2, hm2⟩ := H5.out.ml
  refine wpl_store int_inj' rfl _ _ _ 95 rfl hm2 lawI Try.underlying95 (by unfold maxLen; have := HN.out; omega) (y := x) (keyOf_int_mk Try.underlying3 HX.out) (val := .int .i64 y) rfl rfl rfl ?_
  intro w6 hm6 hg6
  rw [iV_upd] at hm6
  have HM6 := Aside0.mk (H5.out.putL hm6 (by split <;> omega) hg6)
  have HF6 := Aside0.mk (HF5.out.trans ((Fr.of_grown hg6).mono (fun g q => .inr (.inr (Option.some.inj q)))))
  clear hm6 hg6 hm2 hz2 H5 HF5 HO5 hd hd2
  go_wp2
  go_end0
  exact ⟨rfl, HM6.out, HF6.out⟩

set_option maxHeartbeats 4000000 in
set_option maxRecDepth 100000 in
theorem start1_any {w : World} {B b n m1 m2 eb xb : Nat} {m : Md} (e : Ev) (hn : n ≤ 1000000) (hx : (Lit.int .i64 e.nn).wf = true) (hy : (Lit.int .i64 e.ng).wf = true) (h : MdIs w B b n m m1 m2) (he : w.heap[eb]? = some (.cells (evA e) 54 (0, 0))) (hxb : w.heap[xb]? = some (.cells #[pA b] 58 (0, 0))) :
    Calls Try.prog 101 #[pA xb, pA eb] w fun r w' => r = .returned (.tuple #[]) ∧ MdIs w' B b (n + 2) (m.arm e.new e.t) m1 m2 ∧ Fr w w' (mdS b m1 m2) := by
  have hu1 := Try.underlying34
  have hu2 := Try.underlying54
  have CA := Aside0.mk (arm_any e.nn e.ng e.t hn hx hy h)
  have hce := fun i => blk_cell he i
  have hcx := fun i => blk_cell hxb i
  have hle := blk_lt he
  have hlx := blk_lt hxb
  clear h he hxb hx hy hn
  go_enter Try.func101, Try.ntmps101
  go_wp2_with (go_at_call 102; (with_reducible refine CA.out.mono ?_); rintro r w2 ⟨rfl, hm, hf⟩; have HM := Aside0.mk (And.intro hm hf); clear hm hf)
  go_end0
  exact ⟨rfl, HM.out⟩

set_option maxHeartbeats 4000000 in
set_option maxRecDepth 100000 in
theorem rearm1_any {w : World} {B b n m1 m2 eb xb : Nat} {m : Md} (e : Ev) (hn : n + 1 ≤ 1000000) (hx : (Lit.int .i64 e.nn).wf = true) (hy : (Lit.int .i64 e.ng).wf = true) (hx' : (Lit.int .i64 e.hn).wf = true) (hy' : (Lit.int .i64 e.hg).wf = true) (h : MdIs w B b n m m1 m2) (he : w.heap[eb]? = some (.cells (evA e) 54 (0, 0))) (hxb : w.heap[xb]? = some (.cells #[pA b] 58 (0, 0))) :
    Calls Try.prog 103 #[pA xb, pA eb] w fun r w' => r = .returned (.tuple #[]) ∧ MdIs w' B b (n + 3) ((m.end_ e.h 4).arm e.new e.t) m1 m2 ∧ Fr w w' (mdS b m1 m2) := by
  have hu1 := Try.underlying34
  have hu2 := Try.underlying54
  have CE := Aside0.mk (fun W => end_any b e.hn e.hg 4 W)
  have H0 := Aside0.mk (show MdIs (((w.alloc (.cells #[pA b] 58)).alloc (.cells #[.int .i64 e.hn, .int .i64 e.hg] 34)).alloc (.cells #[.int .i64 4] 3)) B b n m m1 m2 from ((h.alloc _).alloc _).alloc _)
  have HO := Aside0.mk (show (((w.alloc (.cells #[pA b] 58)).alloc (.cells #[.int .i64 e.hn, .int .i64 e.hg] 34)).alloc (.cells #[.int .i64 4] 3)).heap[w.heap.size + 1 + 1]? = some (.cells #[.int .i64 4] 3 (0, 0)) ∧ (((w.alloc (.cells #[pA b] 58)).alloc (.cells #[.int .i64 e.hn, .int .i64 e.hg] 34)).alloc (.cells #[.int .i64 4] 3)).heap[w.heap.size]? = some (.cells #[pA b] 58 (0, 0)) ∧ (((w.alloc (.cells #[pA b] 58)).alloc (.cells #[.int .i64 e.hn, .int .i64 e.hg] 34)).alloc (.cells #[.int .i64 4] 3)).heap[w.heap.size + 1]? = some (.cells #[.int .i64 e.hn, .int .i64 e.hg] 34 (0, 0)) from
    ⟨by simpa using blk_new ((w.alloc (.cells #[pA b] 58)).alloc (.cells #[.int .i64 e.hn, .int .i64 e.hg] 34)) (.cells #[.int .i64 4] 3), blk_alloc (blk_alloc (blk_new _ _) _) _, blk_alloc (by simpa using blk_new (w.alloc (.cells #[pA b] 58)) (.cells #[.int .i64 e.hn, .int .i64 e.hg] 34)) _⟩)
  have CE1 := Aside0.mk (end1_any 4 e.hn e.hg (by omega) hx' hy' H0.out HO.out.1 HO.out.2.1 HO.out.2.2)
  have CA : Aside0 (∀ W, MdIs W B b (n + 1) (m.end_ e.h 4) m1 m2 → Calls Try.prog 102 #[pA b, .agg #[.int .i64 e.nn, .int .i64 e.ng], .int .i64 e.t] W fun r w' => r = .returned (.tuple #[]) ∧ MdIs w' B b (n + 1 + 2) ((m.end_ e.h 4).arm (e.nn, e.ng) e.t) m1 m2 ∧ Fr W w' (mdS b m1 m2)) := ⟨fun W hW => arm_any e.nn e.ng e.t hn hx hy hW⟩
  have HE := Aside0.mk he
  have HX := Aside0.mk hxb
  have HMD := Aside0.mk h
  have hce := fun i => blk_cell he i
  have hcx := fun i => blk_cell hxb i
  have hle := blk_lt he
  have hlx := blk_lt hxb
  clear h he hxb hx hy hx' hy' hn
  go_enter Try.func103, Try.ntmps103
  go_wp2_with (first
    | (go_at_call 75; (with_reducible refine (CE.out _).mono ?_); rintro r w2 ⟨rfl, rfl⟩)
    | (go_at_call 99; (with_reducible refine CE1.out.mono ?_); rintro r w3 ⟨rfl, hm, hf⟩; have HM := Aside0.mk (And.intro hm (((((Fr.refl w (mdS b m1 m2)).alloc _).alloc _).alloc _).trans hf)); have HE3 := Aside0.mk (HM.out.2.blk HE.out (fun q => by rcases q with q | q | q; exact types_ne HE.out HMD.out.blk (by decide) q; (obtain ⟨z, _, hz⟩ := HMD.out.mf; obtain ⟨_, _, hq⟩ := hz.block; exact map_ne HE.out hq q); (obtain ⟨z, _, hz⟩ := HMD.out.ml; obtain ⟨_, _, hq⟩ := hz.block; exact map_ne HE.out hq q))); have HX3 := Aside0.mk (HM.out.2.blk HX.out (fun q => by rcases q with q | q | q; exact types_ne HX.out HMD.out.blk (by decide) q; (obtain ⟨z, _, hz⟩ := HMD.out.mf; obtain ⟨_, _, hq⟩ := hz.block; exact map_ne HX.out hq q); (obtain ⟨z, _, hz⟩ := HMD.out.ml; obtain ⟨_, _, hq⟩ := hz.block; exact map_ne HX.out hq q))); clear hm hf hce hcx hle hlx; have hce := fun i => blk_cell HE3.out i; have hcx := fun i => blk_cell HX3.out i; have hle := blk_lt HE3.out; have hlx := blk_lt HX3.out)
    | (go_at_call 102; (with_reducible refine (CA.out _ HM.out.1).mono ?_); rintro r w4 ⟨rfl, hm, hf⟩; have HM4 := Aside0.mk (And.intro hm (HM.out.2.trans hf)); clear hm hf))
  go_end0
  exact ⟨rfl, HM4.out⟩

end Go.Proofs.Ythniclbmpeklmaa.Ju
