/- What is proved: what (*Book).Do does with a book in memory: its answer, the clock, the states; connections' numbers and times fit into 64 bits. -/
import Derived.Test.YthljanmfanppdaaBl
import Derived.IntWalk
namespace Go.Proofs.Ythljanmfanppdaa.Bk
open Go.RowKit Go.Maps Go.Proofs.YthljanmfanppdaaW.PrintWords Go.Proofs.YthljanmfanppdaaW.PrintLast Go.Proofs.YthljanmfanppdaaW.PrintMore Go.Proofs.Ythljanmfanppdaa.Mp
set_option linter.unusedVariables false
set_option linter.unusedSimpArgs false
/-- But for two blocks all is as it was. -/
structure Chg (w w' : World) (g m : Nat) : Prop where
  os : w'.os = w.os
  tape : w'.tape = w.tape
  output : w'.output = w.output
  size : w.heap.size ≤ w'.heap.size
  block : ∀ k, k < w.heap.size → k ≠ g → k ≠ m → w'.heap[k]? = w.heap[k]?
section
variable {w w1 w2 : World} {g m : Nat}
theorem Chg.of_below (h : Below w.heap.size w w1) : Chg w w1 g m := ⟨h.os, h.tape, h.output, h.size, fun k hk _ _ => h.block k hk⟩
theorem Chg.of_m (h : w.grownBy w1 (some m)) : Chg w w1 g m := ⟨h.os, h.tape, h.output, h.size, fun k hk _ hm => h.block k hk (fun e => hm (by injection e))⟩
theorem Chg.of_g (h : w.grownBy w1 (some g)) : Chg w w1 g m := ⟨h.os, h.tape, h.output, h.size, fun k hk hg _ => h.block k hk (fun e => hg (by injection e))⟩
theorem Chg.trans (h : Chg w w1 g m) (k : Chg w1 w2 g m) : Chg w w2 g m := ⟨k.os.trans h.os, k.tape.trans h.tape, k.output.trans h.output, Nat.le_trans h.size k.size, fun i hi hg hm => (k.block i (Nat.lt_of_lt_of_le hi h.size) hg hm).trans (h.block i hi hg hm)⟩
theorem Chg.below (h : Chg w w1 g m) {w0 : World} {B : Nat} (hb : Below B w0 w) (hB : B ≤ w.heap.size) (hg : B ≤ g) (hm : B ≤ m) : Below B w0 w1 :=
  ⟨h.os.trans hb.os, h.tape.trans hb.tape, h.output.trans hb.output, Nat.le_trans hb.size h.size, fun k hk => (h.block k (by omega) (by omega) (by omega)).trans (hb.block k hk)⟩
end
/-- What Do leaves. -/
def DoPost (g m s : Nat) (c : Cf) (r : Int × Int × SM) (w : World) (e : Ending) (w' : World) : Prop := e = .returned (.int .i64 r.1) ∧ ∃ s', s' ≤ s + 1 ∧ BookIs w' g m s' c r.2.1 r.2.2 ∧ Chg w w' g m
theorem DoPost.stay {g m s : Nat} {c : Cf} {clock code : Int} {F : SM} {w W : World} (h : BookIs W g m s c clock F) (hb : Below w.heap.size w W) : DoPost g m s c (code, clock, F) w (.returned (.int .i64 code)) W := ⟨rfl, s, by omega, h, Chg.of_below hb⟩
theorem DoPost.of_set {g m s : Nat} {c : Cf} {clock code : Int} {F' : SM} {w W W1 : World} {e : Ending} (h : SetPost g m s c clock F' W code e W1) (hb : Below w.heap.size w W) : DoPost g m s c (code, clock, F') w e W1 := by
  obtain ⟨h1, s', h2, h3, h4⟩ := h
  exact ⟨h1, s', h2, h3, Chg.of_m ((grown_of_below hb _).trans h4)⟩
theorem grown_set (w : World) (g j : Nat) (u : Value) : w.grownBy (w.setCell ⟨g, j, none⟩ u) (some g) := ⟨rfl, rfl, rfl, by simp [World.setCell], fun k hk hne => Below.heap_setCell w _ u k (fun e => hne (by rw [e]))⟩
set_option maxHeartbeats 4000000 in
set_option maxRecDepth 100000 in
theorem do_wrong {g m s : Nat} {c : Cf} {clock : Int} {F : SM} (k wk op cn t dr er draw : Int) (r : Bool) (hr : r = false) (w : World) (hB : BookIs w g m s c clock F)
    (CR : Aside0 (∀ W, Calls Try.prog 63 #[.agg (evA k wk op cn t dr er)] W fun e w' => e = .returned (.bool r) ∧ Below W.heap.size W w')) :
    Calls Try.prog 38 #[.pointer (some ⟨g, 0, none⟩), .agg (evA k wk op cn t dr er), .int .i64 draw] w (DoPost g m s c (8, clock, F) w) := by
  have hu := Try.underlying107
  have hu2 := Try.underlying56
  have hu3 := Try.underlying60
  subst hr
  have hlt := hB.glt
  have hc := fun i => hB.cell i
  have HB := Aside0.mk hB
  clear hB
  go_enter Try.func38, Try.ntmps38
  go_wp2_with (first | (go_at_call 63; (with_reducible refine (CR.out _).mono ?_); rintro e w1 ⟨rfl, hb⟩; have n1 := Aside0.mk (show Below w.heap.size w w1 from below_step (below_alloc (Below.refl _ _) _) hb); have n2 := Aside0.mk ((HB.out.alloc _).below hb); have n3 := Aside0.mk ((hb.block w.heap.size (by simp)).trans (heap_alloc_new w (.cells (evA k wk op cn t dr er) 60))); have hl1 : g < w1.heap.size := n2.out.glt; have hl2 : w.heap.size < w1.heap.size := blk_lt n3.out; clear hb hc; have hc := fun i => n2.out.cell i; have he := fun i => blk_cell n3.out i; have hf := fun i => blk_frozen n2.out.blk i))
  go_ret
  exact DoPost.stay (by repeat (first | exact n2.out | apply BookIs.alloc | apply BookIs.drewN)) (by repeat (first | exact n1.out | apply below_alloc | apply pw_below_drewN))

set_option maxHeartbeats 4000000 in
set_option maxRecDepth 100000 in
theorem do_other {g m s : Nat} {c : Cf} {clock : Int} {F : SM} (k wk op cn t dr er draw : Int) (r : Bool) (hr : r = true) (h1 : ¬ k = 1) (h3 : ¬ k = 3) (h4 : ¬ k = 4) (w : World) (hB : BookIs w g m s c clock F)
    (CR : Aside0 (∀ W, Calls Try.prog 63 #[.agg (evA k wk op cn t dr er)] W fun e w' => e = .returned (.bool r) ∧ Below W.heap.size W w')) :
    Calls Try.prog 38 #[.pointer (some ⟨g, 0, none⟩), .agg (evA k wk op cn t dr er), .int .i64 draw] w (DoPost g m s c (8, clock, F) w) := by
  have hu := Try.underlying107
  have hu2 := Try.underlying56
  have hu3 := Try.underlying60
  subst hr
  have g1 : (k == 1) = false := beq_eq_false_iff_ne.2 h1
  have g3 : (k == 3) = false := beq_eq_false_iff_ne.2 h3
  have g4 : (k == 4) = false := beq_eq_false_iff_ne.2 h4
  clear h1 h3 h4
  have hlt := hB.glt
  have hc := fun i => hB.cell i
  have HB := Aside0.mk hB
  clear hB
  go_enter Try.func38, Try.ntmps38
  go_wp2_with (first | (go_at_call 63; (with_reducible refine (CR.out _).mono ?_); rintro e w1 ⟨rfl, hb⟩; have n1 := Aside0.mk (show Below w.heap.size w w1 from below_step (below_alloc (Below.refl _ _) _) hb); have n2 := Aside0.mk ((HB.out.alloc _).below hb); have n3 := Aside0.mk ((hb.block w.heap.size (by simp)).trans (heap_alloc_new w (.cells (evA k wk op cn t dr er) 60))); have hl1 : g < w1.heap.size := n2.out.glt; have hl2 : w.heap.size < w1.heap.size := blk_lt n3.out; clear hb hc; have hc := fun i => n2.out.cell i; have he := fun i => blk_cell n3.out i; have hf := fun i => blk_frozen n2.out.blk i))
  go_ret
  exact DoPost.stay (by repeat (first | exact n2.out | apply BookIs.alloc | apply BookIs.drewN)) (by repeat (first | exact n1.out | apply below_alloc | apply pw_below_drewN))

set_option maxHeartbeats 4000000 in
set_option maxRecDepth 100000 in
theorem do_tick_no {g m s : Nat} {c : Cf} {clock : Int} {F : SM} (k wk op cn t dr er draw : Int) (r : Bool) (hr : r = true) (h1 : k = 1) (ht : ¬ t = wrap64 (clock + 1)) (w : World) (hB : BookIs w g m s c clock F)
    (CR : Aside0 (∀ W, Calls Try.prog 63 #[.agg (evA k wk op cn t dr er)] W fun e w' => e = .returned (.bool r) ∧ Below W.heap.size W w')) :
    Calls Try.prog 38 #[.pointer (some ⟨g, 0, none⟩), .agg (evA k wk op cn t dr er), .int .i64 draw] w (DoPost g m s c (6, clock, F) w) := by
  have hu := Try.underlying107
  have hu2 := Try.underlying56
  have hu3 := Try.underlying60
  subst hr
  subst h1
  have g1 : (t != wrap64 (clock + 1)) = true := bne_iff_ne.2 ht
  have HQ := Aside0.mk ht
  clear ht
  have g2 : (t != IntKind.i64.wrap (clock + 1)) = true := by rw [IntWalk.i64_left]; exact g1
  have hlt := hB.glt
  have hc := fun i => hB.cell i
  have HB := Aside0.mk hB
  clear hB
  go_enter Try.func38, Try.ntmps38
  go_wp2_with (first | (go_at_call 63; (with_reducible refine (CR.out _).mono ?_); rintro e w1 ⟨rfl, hb⟩; have n1 := Aside0.mk (show Below w.heap.size w w1 from below_step (below_alloc (Below.refl _ _) _) hb); have n2 := Aside0.mk ((HB.out.alloc _).below hb); have n3 := Aside0.mk ((hb.block w.heap.size (by simp)).trans (heap_alloc_new w (.cells (evA 1 wk op cn t dr er) 60))); have hl1 : g < w1.heap.size := n2.out.glt; have hl2 : w.heap.size < w1.heap.size := blk_lt n3.out; clear hb hc; have hc := fun i => n2.out.cell i; have he := fun i => blk_cell n3.out i; have hf := fun i => blk_frozen n2.out.blk i))
  go_quiet (fail)
  go_wp2
  all_goals first
    | (go_ret
       exact DoPost.stay (by repeat (first | exact n2.out | apply BookIs.alloc | apply BookIs.drewN)) (by repeat (first | exact n1.out | apply below_alloc | apply pw_below_drewN)))
    | (exfalso; have := HQ.out; simp_all)

set_option maxHeartbeats 4000000 in
set_option maxRecDepth 100000 in
theorem do_tick {g m s : Nat} {c : Cf} {clock : Int} {F : SM} (k wk op cn t dr er draw : Int) (r : Bool) (hr : r = true) (h1 : k = 1) (ht : t = wrap64 (clock + 1)) (w : World) (hB : BookIs w g m s c clock F)
    (CR : Aside0 (∀ W, Calls Try.prog 63 #[.agg (evA k wk op cn t dr er)] W fun e w' => e = .returned (.bool r) ∧ Below W.heap.size W w')) :
    Calls Try.prog 38 #[.pointer (some ⟨g, 0, none⟩), .agg (evA k wk op cn t dr er), .int .i64 draw] w (DoPost g m s c (0, t, F) w) := by
  have hu := Try.underlying107
  have hu2 := Try.underlying56
  have hu3 := Try.underlying60
  subst hr
  subst h1
  have g1 : (t != wrap64 (clock + 1)) = false := by rw [ht]; simp
  have HQ := Aside0.mk ht
  clear ht
  have g2 : (t != IntKind.i64.wrap (clock + 1)) = false := by rw [IntWalk.i64_left]; exact g1
  have hlt := hB.glt
  have hc := fun i => hB.cell i
  have HB := Aside0.mk hB
  clear hB
  go_enter Try.func38, Try.ntmps38
  go_wp2_with (first | (go_at_call 63; (with_reducible refine (CR.out _).mono ?_); rintro e w1 ⟨rfl, hb⟩; have n1 := Aside0.mk (show Below w.heap.size w w1 from below_step (below_alloc (Below.refl _ _) _) hb); have n2 := Aside0.mk ((HB.out.alloc _).below hb); have n3 := Aside0.mk ((hb.block w.heap.size (by simp)).trans (heap_alloc_new w (.cells (evA 1 wk op cn t dr er) 60))); have hl1 : g < w1.heap.size := n2.out.glt; have hl2 : w.heap.size < w1.heap.size := blk_lt n3.out; clear hb hc; have hc := fun i => n2.out.cell i; have he := fun i => blk_cell n3.out i; have hf := fun i => blk_frozen n2.out.blk i))
  go_quiet (fail)
  go_wp2
  all_goals first
    | (go_ret
       exact ⟨rfl, s, by omega, ⟨by simpa using blk_set (n2.out.drewN _).blk 13 (.int .i64 t), (n2.out.drewN _).map.move (Below.heap_setCell _ _ _ _ (Ne.symm n2.out.ne))⟩, (Chg.of_below (pw_below_drewN n1.out _)).trans (Chg.of_g (grown_set _ _ _ _))⟩)
    | (exfalso; have := HQ.out; simp_all)

set_option maxHeartbeats 4000000 in
set_option maxRecDepth 100000 in
theorem do_act {g m s : Nat} {c : Cf} {clock : Int} {F : SM} (k wk op cn t dr er draw : Int) (r : Bool) (hr : r = true) (h1 : k = 4) (code : Int) (F2 : SM) (ca : ∀ W, BookIs W g m s c clock F → Calls Try.prog 64 #[.pointer (some ⟨g, 0, none⟩), .agg (evA k wk op cn t dr er)] W (SetPost g m s c clock F2 W code)) (w : World) (hB : BookIs w g m s c clock F)
    (CR : Aside0 (∀ W, Calls Try.prog 63 #[.agg (evA k wk op cn t dr er)] W fun e w' => e = .returned (.bool r) ∧ Below W.heap.size W w')) :
    Calls Try.prog 38 #[.pointer (some ⟨g, 0, none⟩), .agg (evA k wk op cn t dr er), .int .i64 draw] w (DoPost g m s c (code, clock, F2) w) := by
  have hu := Try.underlying107
  have hu2 := Try.underlying56
  have hu3 := Try.underlying60
  subst hr
  subst h1
  have CA := Aside0.mk ca
  clear ca
  have hlt := hB.glt
  have hc := fun i => hB.cell i
  have HB := Aside0.mk hB
  clear hB
  go_enter Try.func38, Try.ntmps38
  go_wp2_with (first | (go_at_call 63; (with_reducible refine (CR.out _).mono ?_); rintro e w1 ⟨rfl, hb⟩; have n1 := Aside0.mk (show Below w.heap.size w w1 from below_step (below_alloc (Below.refl _ _) _) hb); have n2 := Aside0.mk ((HB.out.alloc _).below hb); have n3 := Aside0.mk ((hb.block w.heap.size (by simp)).trans (heap_alloc_new w (.cells (evA 4 wk op cn t dr er) 60))); have hl1 : g < w1.heap.size := n2.out.glt; have hl2 : w.heap.size < w1.heap.size := blk_lt n3.out; clear hb hc; have hc := fun i => n2.out.cell i; have he := fun i => blk_cell n3.out i; have hf := fun i => blk_frozen n2.out.blk i) | (go_at_call 64; (with_reducible refine (CA.out _ n2.out).mono ?_); rintro e w5 ⟨rfl, hp⟩))
  go_ret
  exact DoPost.of_set ⟨rfl, hp⟩ n1.out

set_option maxHeartbeats 4000000 in
set_option maxRecDepth 100000 in
theorem do_point_still1 {g m s : Nat} {c : Cf} {clock : Int} {F : SM} (k wk op cn t dr er draw : Int) (r : Bool) (hr : r = true) (h1 : k = 3) (a b d code : Int) (can : Bool) (ca : ∀ W, BookIs W g m s c clock F → Calls Try.prog 65 #[.pointer (some ⟨g, 0, none⟩), .agg (evA k wk op cn t dr er), .int .i64 draw] W fun e w' => e = .returned (.tuple #[stV (a, b, d), .int .i64 code, .bool can]) ∧ Below W.heap.size W w') (h2 : er = 1) (w : World) (hB : BookIs w g m s c clock F)
    (CR : Aside0 (∀ W, Calls Try.prog 63 #[.agg (evA k wk op cn t dr er)] W fun e w' => e = .returned (.bool r) ∧ Below W.heap.size W w')) :
    Calls Try.prog 38 #[.pointer (some ⟨g, 0, none⟩), .agg (evA k wk op cn t dr er), .int .i64 draw] w (DoPost g m s c (0, clock, F) w) := by
  have hu := Try.underlying107
  have hu2 := Try.underlying56
  have hu3 := Try.underlying60
  subst hr
  subst h1
  have CA := Aside0.mk ca
  clear ca
  have q1 : (er == 1) = true := beq_iff_eq.2 h2
  clear h2
  have hlt := hB.glt
  have hc := fun i => hB.cell i
  have HB := Aside0.mk hB
  clear hB
  go_enter Try.func38, Try.ntmps38
  go_wp2_with (first | (go_at_call 63; (with_reducible refine (CR.out _).mono ?_); rintro e w1 ⟨rfl, hb⟩; have n1 := Aside0.mk (show Below w.heap.size w w1 from below_step (below_alloc (Below.refl _ _) _) hb); have n2 := Aside0.mk ((HB.out.alloc _).below hb); have n3 := Aside0.mk ((hb.block w.heap.size (by simp)).trans (heap_alloc_new w (.cells (evA 3 wk op cn t dr er) 60))); have hl1 : g < w1.heap.size := n2.out.glt; have hl2 : w.heap.size < w1.heap.size := blk_lt n3.out; clear hb hc; have hc := fun i => n2.out.cell i; have he := fun i => blk_cell n3.out i; have hf := fun i => blk_frozen n2.out.blk i) | (go_at_call 65; (with_reducible refine (CA.out _ n2.out).mono ?_); rintro e w5 ⟨rfl, hb⟩; have m1 := Aside0.mk (below_step n1.out hb); have m2 := Aside0.mk (n2.out.below hb); have m3 := Aside0.mk ((hb.block w.heap.size hl2).trans n3.out); have hl5 : g < w5.heap.size := m2.out.glt; have hl6 : w.heap.size < w5.heap.size := blk_lt m3.out; clear hb hc he hf; have hc := fun i => m2.out.cell i; have he := fun i => blk_cell m3.out i))
  all_goals
    go_ret
    exact DoPost.stay (by repeat (first | exact m2.out | apply BookIs.alloc | apply BookIs.drewN)) (by repeat (first | exact m1.out | apply below_alloc | apply pw_below_drewN))

set_option maxHeartbeats 4000000 in
set_option maxRecDepth 100000 in
theorem do_point_still3 {g m s : Nat} {c : Cf} {clock : Int} {F : SM} (k wk op cn t dr er draw : Int) (r : Bool) (hr : r = true) (h1 : k = 3) (a b d code : Int) (can : Bool) (ca : ∀ W, BookIs W g m s c clock F → Calls Try.prog 65 #[.pointer (some ⟨g, 0, none⟩), .agg (evA k wk op cn t dr er), .int .i64 draw] W fun e w' => e = .returned (.tuple #[stV (a, b, d), .int .i64 code, .bool can]) ∧ Below W.heap.size W w') (h2 : er = 3) (w : World) (hB : BookIs w g m s c clock F)
    (CR : Aside0 (∀ W, Calls Try.prog 63 #[.agg (evA k wk op cn t dr er)] W fun e w' => e = .returned (.bool r) ∧ Below W.heap.size W w')) :
    Calls Try.prog 38 #[.pointer (some ⟨g, 0, none⟩), .agg (evA k wk op cn t dr er), .int .i64 draw] w (DoPost g m s c (0, clock, F) w) := by
  have hu := Try.underlying107
  have hu2 := Try.underlying56
  have hu3 := Try.underlying60
  subst hr
  subst h1
  have CA := Aside0.mk ca
  clear ca
  have q1 : (er == 1) = false := beq_eq_false_iff_ne.2 (by omega)
  have q2 : (er == 3) = true := beq_iff_eq.2 h2
  clear h2
  have hlt := hB.glt
  have hc := fun i => hB.cell i
  have HB := Aside0.mk hB
  clear hB
  go_enter Try.func38, Try.ntmps38
  go_wp2_with (first | (go_at_call 63; (with_reducible refine (CR.out _).mono ?_); rintro e w1 ⟨rfl, hb⟩; have n1 := Aside0.mk (show Below w.heap.size w w1 from below_step (below_alloc (Below.refl _ _) _) hb); have n2 := Aside0.mk ((HB.out.alloc _).below hb); have n3 := Aside0.mk ((hb.block w.heap.size (by simp)).trans (heap_alloc_new w (.cells (evA 3 wk op cn t dr er) 60))); have hl1 : g < w1.heap.size := n2.out.glt; have hl2 : w.heap.size < w1.heap.size := blk_lt n3.out; clear hb hc; have hc := fun i => n2.out.cell i; have he := fun i => blk_cell n3.out i; have hf := fun i => blk_frozen n2.out.blk i) | (go_at_call 65; (with_reducible refine (CA.out _ n2.out).mono ?_); rintro e w5 ⟨rfl, hb⟩; have m1 := Aside0.mk (below_step n1.out hb); have m2 := Aside0.mk (n2.out.below hb); have m3 := Aside0.mk ((hb.block w.heap.size hl2).trans n3.out); have hl5 : g < w5.heap.size := m2.out.glt; have hl6 : w.heap.size < w5.heap.size := blk_lt m3.out; clear hb hc he hf; have hc := fun i => m2.out.cell i; have he := fun i => blk_cell m3.out i))
  all_goals
    go_ret
    exact DoPost.stay (by repeat (first | exact m2.out | apply BookIs.alloc | apply BookIs.drewN)) (by repeat (first | exact m1.out | apply below_alloc | apply pw_below_drewN))

set_option maxHeartbeats 4000000 in
set_option maxRecDepth 100000 in
theorem do_point_still6 {g m s : Nat} {c : Cf} {clock : Int} {F : SM} (k wk op cn t dr er draw : Int) (r : Bool) (hr : r = true) (h1 : k = 3) (a b d code : Int) (can : Bool) (ca : ∀ W, BookIs W g m s c clock F → Calls Try.prog 65 #[.pointer (some ⟨g, 0, none⟩), .agg (evA k wk op cn t dr er), .int .i64 draw] W fun e w' => e = .returned (.tuple #[stV (a, b, d), .int .i64 code, .bool can]) ∧ Below W.heap.size W w') (h2 : er = 6) (h3 : can = false) (w : World) (hB : BookIs w g m s c clock F)
    (CR : Aside0 (∀ W, Calls Try.prog 63 #[.agg (evA k wk op cn t dr er)] W fun e w' => e = .returned (.bool r) ∧ Below W.heap.size W w')) :
    Calls Try.prog 38 #[.pointer (some ⟨g, 0, none⟩), .agg (evA k wk op cn t dr er), .int .i64 draw] w (DoPost g m s c (0, clock, F) w) := by
  have hu := Try.underlying107
  have hu2 := Try.underlying56
  have hu3 := Try.underlying60
  subst hr
  subst h1
  have CA := Aside0.mk ca
  clear ca
  subst h2
  subst h3
  have hlt := hB.glt
  have hc := fun i => hB.cell i
  have HB := Aside0.mk hB
  clear hB
  go_enter Try.func38, Try.ntmps38
  go_wp2_with (first | (go_at_call 63; (with_reducible refine (CR.out _).mono ?_); rintro e w1 ⟨rfl, hb⟩; have n1 := Aside0.mk (show Below w.heap.size w w1 from below_step (below_alloc (Below.refl _ _) _) hb); have n2 := Aside0.mk ((HB.out.alloc _).below hb); have n3 := Aside0.mk ((hb.block w.heap.size (by simp)).trans (heap_alloc_new w (.cells (evA 3 wk op cn t dr 6) 60))); have hl1 : g < w1.heap.size := n2.out.glt; have hl2 : w.heap.size < w1.heap.size := blk_lt n3.out; clear hb hc; have hc := fun i => n2.out.cell i; have he := fun i => blk_cell n3.out i; have hf := fun i => blk_frozen n2.out.blk i) | (go_at_call 65; (with_reducible refine (CA.out _ n2.out).mono ?_); rintro e w5 ⟨rfl, hb⟩; have m1 := Aside0.mk (below_step n1.out hb); have m2 := Aside0.mk (n2.out.below hb); have m3 := Aside0.mk ((hb.block w.heap.size hl2).trans n3.out); have hl5 : g < w5.heap.size := m2.out.glt; have hl6 : w.heap.size < w5.heap.size := blk_lt m3.out; clear hb hc he hf; have hc := fun i => m2.out.cell i; have he := fun i => blk_cell m3.out i))
  all_goals
    go_ret
    exact DoPost.stay (by repeat (first | exact m2.out | apply BookIs.alloc | apply BookIs.drewN)) (by repeat (first | exact m1.out | apply below_alloc | apply pw_below_drewN))

set_option maxHeartbeats 4000000 in
set_option maxRecDepth 100000 in
theorem do_point_nof {g m s : Nat} {c : Cf} {clock : Int} {F : SM} (k wk op cn t dr er draw : Int) (r : Bool) (hr : r = true) (h1 : k = 3) (a b d code : Int) (can : Bool) (ca : ∀ W, BookIs W g m s c clock F → Calls Try.prog 65 #[.pointer (some ⟨g, 0, none⟩), .agg (evA k wk op cn t dr er), .int .i64 draw] W fun e w' => e = .returned (.tuple #[stV (a, b, d), .int .i64 code, .bool can]) ∧ Below W.heap.size W w') (h2 : ¬ er = 1 ∧ ¬ er = 3 ∧ ¬ er = 6) (hc : can = false) (w : World) (hB : BookIs w g m s c clock F)
    (CR : Aside0 (∀ W, Calls Try.prog 63 #[.agg (evA k wk op cn t dr er)] W fun e w' => e = .returned (.bool r) ∧ Below W.heap.size W w')) :
    Calls Try.prog 38 #[.pointer (some ⟨g, 0, none⟩), .agg (evA k wk op cn t dr er), .int .i64 draw] w (DoPost g m s c (6, clock, F) w) := by
  have hu := Try.underlying107
  have hu2 := Try.underlying56
  have hu3 := Try.underlying60
  subst hr
  subst h1
  have CA := Aside0.mk ca
  clear ca
  have q1 : (er == 1) = false := beq_eq_false_iff_ne.2 h2.1
  have q2 : (er == 3) = false := beq_eq_false_iff_ne.2 h2.2.1
  have q3 : (er == 6) = false := beq_eq_false_iff_ne.2 h2.2.2
  clear h2
  subst hc
  have hlt := hB.glt
  have hc := fun i => hB.cell i
  have HB := Aside0.mk hB
  clear hB
  go_enter Try.func38, Try.ntmps38
  go_wp2_with (first | (go_at_call 63; (with_reducible refine (CR.out _).mono ?_); rintro e w1 ⟨rfl, hb⟩; have n1 := Aside0.mk (show Below w.heap.size w w1 from below_step (below_alloc (Below.refl _ _) _) hb); have n2 := Aside0.mk ((HB.out.alloc _).below hb); have n3 := Aside0.mk ((hb.block w.heap.size (by simp)).trans (heap_alloc_new w (.cells (evA 3 wk op cn t dr er) 60))); have hl1 : g < w1.heap.size := n2.out.glt; have hl2 : w.heap.size < w1.heap.size := blk_lt n3.out; clear hb hc; have hc := fun i => n2.out.cell i; have he := fun i => blk_cell n3.out i; have hf := fun i => blk_frozen n2.out.blk i) | (go_at_call 65; (with_reducible refine (CA.out _ n2.out).mono ?_); rintro e w5 ⟨rfl, hb⟩; have m1 := Aside0.mk (below_step n1.out hb); have m2 := Aside0.mk (n2.out.below hb); have m3 := Aside0.mk ((hb.block w.heap.size hl2).trans n3.out); have hl5 : g < w5.heap.size := m2.out.glt; have hl6 : w.heap.size < w5.heap.size := blk_lt m3.out; clear hb hc he hf; have hc := fun i => m2.out.cell i; have he := fun i => blk_cell m3.out i))
  all_goals
    go_ret
    exact DoPost.stay (by repeat (first | exact m2.out | apply BookIs.alloc | apply BookIs.drewN)) (by repeat (first | exact m1.out | apply below_alloc | apply pw_below_drewN))

set_option maxHeartbeats 4000000 in
set_option maxRecDepth 100000 in
theorem do_point_no {g m s : Nat} {c : Cf} {clock : Int} {F : SM} (k wk op cn t dr er draw : Int) (r : Bool) (hr : r = true) (h1 : k = 3) (a b d code : Int) (can : Bool) (ca : ∀ W, BookIs W g m s c clock F → Calls Try.prog 65 #[.pointer (some ⟨g, 0, none⟩), .agg (evA k wk op cn t dr er), .int .i64 draw] W fun e w' => e = .returned (.tuple #[stV (a, b, d), .int .i64 code, .bool can]) ∧ Below W.heap.size W w') (h2 : ¬ er = 1 ∧ ¬ er = 3 ∧ ¬ er = 6) (hc : can = true) (h3 : ¬ er = code) (w : World) (hB : BookIs w g m s c clock F)
    (CR : Aside0 (∀ W, Calls Try.prog 63 #[.agg (evA k wk op cn t dr er)] W fun e w' => e = .returned (.bool r) ∧ Below W.heap.size W w')) :
    Calls Try.prog 38 #[.pointer (some ⟨g, 0, none⟩), .agg (evA k wk op cn t dr er), .int .i64 draw] w (DoPost g m s c (6, clock, F) w) := by
  have hu := Try.underlying107
  have hu2 := Try.underlying56
  have hu3 := Try.underlying60
  subst hr
  subst h1
  have CA := Aside0.mk ca
  clear ca
  have q1 : (er == 1) = false := beq_eq_false_iff_ne.2 h2.1
  have q2 : (er == 3) = false := beq_eq_false_iff_ne.2 h2.2.1
  have q3 : (er == 6) = false := beq_eq_false_iff_ne.2 h2.2.2
  clear h2
  subst hc
  have q4 : (er == code) = false := beq_eq_false_iff_ne.2 h3
  clear h3
  have hlt := hB.glt
  have hc := fun i => hB.cell i
  have HB := Aside0.mk hB
  clear hB
  go_enter Try.func38, Try.ntmps38
  go_wp2_with (first | (go_at_call 63; (with_reducible refine (CR.out _).mono ?_); rintro e w1 ⟨rfl, hb⟩; have n1 := Aside0.mk (show Below w.heap.size w w1 from below_step (below_alloc (Below.refl _ _) _) hb); have n2 := Aside0.mk ((HB.out.alloc _).below hb); have n3 := Aside0.mk ((hb.block w.heap.size (by simp)).trans (heap_alloc_new w (.cells (evA 3 wk op cn t dr er) 60))); have hl1 : g < w1.heap.size := n2.out.glt; have hl2 : w.heap.size < w1.heap.size := blk_lt n3.out; clear hb hc; have hc := fun i => n2.out.cell i; have he := fun i => blk_cell n3.out i; have hf := fun i => blk_frozen n2.out.blk i) | (go_at_call 65; (with_reducible refine (CA.out _ n2.out).mono ?_); rintro e w5 ⟨rfl, hb⟩; have m1 := Aside0.mk (below_step n1.out hb); have m2 := Aside0.mk (n2.out.below hb); have m3 := Aside0.mk ((hb.block w.heap.size hl2).trans n3.out); have hl5 : g < w5.heap.size := m2.out.glt; have hl6 : w.heap.size < w5.heap.size := blk_lt m3.out; clear hb hc he hf; have hc := fun i => m2.out.cell i; have he := fun i => blk_cell m3.out i))
  all_goals
    go_ret
    exact DoPost.stay (by repeat (first | exact m2.out | apply BookIs.alloc | apply BookIs.drewN)) (by repeat (first | exact m1.out | apply below_alloc | apply pw_below_drewN))

set_option maxHeartbeats 4000000 in
set_option maxRecDepth 100000 in
theorem do_point_yes {g m s : Nat} {c : Cf} {clock : Int} {F : SM} (k wk op cn t dr er draw : Int) (r : Bool) (hs : s < 1000000) (hx : (Lit.int .i64 cn).wf = true) (hr : r = true) (h1 : k = 3) (a b d code : Int) (can : Bool) (ca : ∀ W, BookIs W g m s c clock F → Calls Try.prog 65 #[.pointer (some ⟨g, 0, none⟩), .agg (evA k wk op cn t dr er), .int .i64 draw] W fun e w' => e = .returned (.tuple #[stV (a, b, d), .int .i64 code, .bool can]) ∧ Below W.heap.size W w') (h2 : ¬ er = 1 ∧ ¬ er = 3 ∧ ¬ er = 6) (h3 : can = true ∧ er = code) (w : World) (hB : BookIs w g m s c clock F)
    (CR : Aside0 (∀ W, Calls Try.prog 63 #[.agg (evA k wk op cn t dr er)] W fun e w' => e = .returned (.bool r) ∧ Below W.heap.size W w')) :
    Calls Try.prog 38 #[.pointer (some ⟨g, 0, none⟩), .agg (evA k wk op cn t dr er), .int .i64 draw] w (DoPost g m s c (0, clock, F.put cn (a, b, d)) w) := by
  have hu := Try.underlying107
  have hu2 := Try.underlying56
  have hu3 := Try.underlying60
  subst hr
  subst h1
  have CA := Aside0.mk ca
  clear ca
  have q1 : (er == 1) = false := beq_eq_false_iff_ne.2 h2.1
  have q2 : (er == 3) = false := beq_eq_false_iff_ne.2 h2.2.1
  have q3 : (er == 6) = false := beq_eq_false_iff_ne.2 h2.2.2
  clear h2
  obtain ⟨rfl, rfl⟩ := h3
  have q4 : (er == er) = true := by simp
  have CP := Aside0.mk (fun W h t => set_any (F := F) (g := g) (m := m) (s := s) (c := c) (clock := clock) cn hx t hs W h)
  clear hx
  have hlt := hB.glt
  have hc := fun i => hB.cell i
  have HB := Aside0.mk hB
  clear hB
  go_enter Try.func38, Try.ntmps38
  go_wp2_with (first | (go_at_call 63; (with_reducible refine (CR.out _).mono ?_); rintro e w1 ⟨rfl, hb⟩; have n1 := Aside0.mk (show Below w.heap.size w w1 from below_step (below_alloc (Below.refl _ _) _) hb); have n2 := Aside0.mk ((HB.out.alloc _).below hb); have n3 := Aside0.mk ((hb.block w.heap.size (by simp)).trans (heap_alloc_new w (.cells (evA 3 wk op cn t dr er) 60))); have hl1 : g < w1.heap.size := n2.out.glt; have hl2 : w.heap.size < w1.heap.size := blk_lt n3.out; clear hb hc; have hc := fun i => n2.out.cell i; have he := fun i => blk_cell n3.out i; have hf := fun i => blk_frozen n2.out.blk i) | (go_at_call 65; (with_reducible refine (CA.out _ n2.out).mono ?_); rintro e w5 ⟨rfl, hb⟩; have m1 := Aside0.mk (below_step n1.out hb); have m2 := Aside0.mk (n2.out.below hb); have m3 := Aside0.mk ((hb.block w.heap.size hl2).trans n3.out); have hl5 : g < w5.heap.size := m2.out.glt; have hl6 : w.heap.size < w5.heap.size := blk_lt m3.out; clear hb hc he hf; have hc := fun i => m2.out.cell i; have he := fun i => blk_cell m3.out i) | (go_at_call 66; refine (CP.out _ (by repeat (first | exact m2.out | apply BookIs.alloc | apply BookIs.drewN)) (a, b, d)).mono ?_; rintro e w7 ⟨rfl, hp⟩))
  all_goals
    go_ret
    exact DoPost.of_set ⟨rfl, hp⟩ (by repeat (first | exact m1.out | apply below_alloc | apply pw_below_drewN))

set_option maxHeartbeats 4000000 in
set_option maxRecDepth 100000 in
theorem do_point_no6 {g m s : Nat} {c : Cf} {clock : Int} {F : SM} (k wk op cn t dr er draw : Int) (r : Bool) (hr : r = true) (h1 : k = 3) (a b d code : Int) (can : Bool) (ca : ∀ W, BookIs W g m s c clock F → Calls Try.prog 65 #[.pointer (some ⟨g, 0, none⟩), .agg (evA k wk op cn t dr er), .int .i64 draw] W fun e w' => e = .returned (.tuple #[stV (a, b, d), .int .i64 code, .bool can]) ∧ Below W.heap.size W w') (h2 : er = 6) (hc : can = true) (h3 : ¬ er = code) (w : World) (hB : BookIs w g m s c clock F)
    (CR : Aside0 (∀ W, Calls Try.prog 63 #[.agg (evA k wk op cn t dr er)] W fun e w' => e = .returned (.bool r) ∧ Below W.heap.size W w')) :
    Calls Try.prog 38 #[.pointer (some ⟨g, 0, none⟩), .agg (evA k wk op cn t dr er), .int .i64 draw] w (DoPost g m s c (6, clock, F) w) := by
  have hu := Try.underlying107
  have hu2 := Try.underlying56
  have hu3 := Try.underlying60
  subst hr
  subst h1
  have CA := Aside0.mk ca
  clear ca
  subst h2
  subst hc
  have q4 : ((6 : Int) == code) = false := beq_eq_false_iff_ne.2 h3
  clear h3
  have hlt := hB.glt
  have hc := fun i => hB.cell i
  have HB := Aside0.mk hB
  clear hB
  go_enter Try.func38, Try.ntmps38
  go_wp2_with (first | (go_at_call 63; (with_reducible refine (CR.out _).mono ?_); rintro e w1 ⟨rfl, hb⟩; have n1 := Aside0.mk (show Below w.heap.size w w1 from below_step (below_alloc (Below.refl _ _) _) hb); have n2 := Aside0.mk ((HB.out.alloc _).below hb); have n3 := Aside0.mk ((hb.block w.heap.size (by simp)).trans (heap_alloc_new w (.cells (evA 3 wk op cn t dr 6) 60))); have hl1 : g < w1.heap.size := n2.out.glt; have hl2 : w.heap.size < w1.heap.size := blk_lt n3.out; clear hb hc; have hc := fun i => n2.out.cell i; have he := fun i => blk_cell n3.out i; have hf := fun i => blk_frozen n2.out.blk i) | (go_at_call 65; (with_reducible refine (CA.out _ n2.out).mono ?_); rintro e w5 ⟨rfl, hb⟩; have m1 := Aside0.mk (below_step n1.out hb); have m2 := Aside0.mk (n2.out.below hb); have m3 := Aside0.mk ((hb.block w.heap.size hl2).trans n3.out); have hl5 : g < w5.heap.size := m2.out.glt; have hl6 : w.heap.size < w5.heap.size := blk_lt m3.out; clear hb hc he hf; have hc := fun i => m2.out.cell i; have he := fun i => blk_cell m3.out i))
  all_goals
    go_ret
    exact DoPost.stay (by repeat (first | exact m2.out | apply BookIs.alloc | apply BookIs.drewN)) (by repeat (first | exact m1.out | apply below_alloc | apply pw_below_drewN))

set_option maxHeartbeats 4000000 in
set_option maxRecDepth 100000 in
theorem do_point_yes6 {g m s : Nat} {c : Cf} {clock : Int} {F : SM} (k wk op cn t dr er draw : Int) (r : Bool) (hs : s < 1000000) (hx : (Lit.int .i64 cn).wf = true) (hr : r = true) (h1 : k = 3) (a b d code : Int) (can : Bool) (ca : ∀ W, BookIs W g m s c clock F → Calls Try.prog 65 #[.pointer (some ⟨g, 0, none⟩), .agg (evA k wk op cn t dr er), .int .i64 draw] W fun e w' => e = .returned (.tuple #[stV (a, b, d), .int .i64 code, .bool can]) ∧ Below W.heap.size W w') (h2 : er = 6) (hc : can = true) (h3 : can = true ∧ er = code) (w : World) (hB : BookIs w g m s c clock F)
    (CR : Aside0 (∀ W, Calls Try.prog 63 #[.agg (evA k wk op cn t dr er)] W fun e w' => e = .returned (.bool r) ∧ Below W.heap.size W w')) :
    Calls Try.prog 38 #[.pointer (some ⟨g, 0, none⟩), .agg (evA k wk op cn t dr er), .int .i64 draw] w (DoPost g m s c (0, clock, F.put cn (a, b, d)) w) := by
  have hu := Try.underlying107
  have hu2 := Try.underlying56
  have hu3 := Try.underlying60
  subst hr
  subst h1
  have CA := Aside0.mk ca
  clear ca
  subst h2
  subst hc
  obtain ⟨-, rfl⟩ := h3
  have CP := Aside0.mk (fun W h t => set_any (F := F) (g := g) (m := m) (s := s) (c := c) (clock := clock) cn hx t hs W h)
  clear hx
  have hlt := hB.glt
  have hc := fun i => hB.cell i
  have HB := Aside0.mk hB
  clear hB
  go_enter Try.func38, Try.ntmps38
  go_wp2_with (first | (go_at_call 63; (with_reducible refine (CR.out _).mono ?_); rintro e w1 ⟨rfl, hb⟩; have n1 := Aside0.mk (show Below w.heap.size w w1 from below_step (below_alloc (Below.refl _ _) _) hb); have n2 := Aside0.mk ((HB.out.alloc _).below hb); have n3 := Aside0.mk ((hb.block w.heap.size (by simp)).trans (heap_alloc_new w (.cells (evA 3 wk op cn t dr 6) 60))); have hl1 : g < w1.heap.size := n2.out.glt; have hl2 : w.heap.size < w1.heap.size := blk_lt n3.out; clear hb hc; have hc := fun i => n2.out.cell i; have he := fun i => blk_cell n3.out i; have hf := fun i => blk_frozen n2.out.blk i) | (go_at_call 65; (with_reducible refine (CA.out _ n2.out).mono ?_); rintro e w5 ⟨rfl, hb⟩; have m1 := Aside0.mk (below_step n1.out hb); have m2 := Aside0.mk (n2.out.below hb); have m3 := Aside0.mk ((hb.block w.heap.size hl2).trans n3.out); have hl5 : g < w5.heap.size := m2.out.glt; have hl6 : w.heap.size < w5.heap.size := blk_lt m3.out; clear hb hc he hf; have hc := fun i => m2.out.cell i; have he := fun i => blk_cell m3.out i) | (go_at_call 66; refine (CP.out _ (by repeat (first | exact m2.out | apply BookIs.alloc | apply BookIs.drewN)) (a, b, d)).mono ?_; rintro e w7 ⟨rfl, hp⟩))
  all_goals
    go_ret
    exact DoPost.of_set ⟨rfl, hp⟩ (by repeat (first | exact m1.out | apply below_alloc | apply pw_below_drewN))
end Go.Proofs.Ythljanmfanppdaa.Bk
