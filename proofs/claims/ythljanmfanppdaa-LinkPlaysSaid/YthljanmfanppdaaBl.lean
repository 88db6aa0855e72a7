/- What is proved: what link.New, act, after and Do do with a book in memory; connections' numbers and times fit into 64 bits. -/
import Derived.Test.YthljanmfanppdaaBk
import Derived.Deep.RegionHeld3
namespace Go.Proofs.Ythljanmfanppdaa.Bk
open Go.RowKit Go.Maps Go.Proofs.YthljanmfanppdaaW.PrintWords Go.Proofs.YthljanmfanppdaaW.PrintLast Go.Proofs.YthljanmfanppdaaW.PrintMore Go.Proofs.Ythljanmfanppdaa.Mp
set_option linter.unusedVariables false
set_option linter.unusedSimpArgs false
/-- What New leaves: no book, or one in which every connection is closed. -/
def NewPost (c : Cf) (code : Int) (w : World) (e : Ending) (w' : World) : Prop :=
  (code ≠ 0 ∧ e = .returned (.tuple #[.pointer none, .int .i64 code]) ∧ Below w.heap.size w w') ∨
  (code = 0 ∧ ∃ g m, e = .returned (.tuple #[.pointer (some ⟨g, 0, none⟩), .int .i64 0]) ∧ w.heap.size ≤ g ∧ w.heap.size ≤ m ∧ BookIs w' g m 0 c 0 (fun _ => none) ∧ Below w.heap.size w w')
set_option maxHeartbeats 4000000 in
set_option maxRecDepth 100000 in
theorem new_any (c : Cf) (n code : Int)
    (CK : Aside0 (∀ W, Calls Try.prog 62 #[.agg c.cells] W fun e w' => e = .returned (.tuple #[.int .i64 n, .int .i64 code]) ∧ Below W.heap.size W w')) (w : World) :
    Calls Try.prog 36 #[.agg c.cells] w (NewPost c code w) := by
  have hu := Try.underlying107
  have hmm := @run_makeMap Try.prog
  have HB := Aside0.mk (below_alloc (Below.refl w.heap.size w) (.cells c.cells 36))
  have HO := Aside0.mk (heap_alloc_new w (.cells c.cells 36))
  by_cases h0 : code = 0
  · subst h0
    go_enter Try.func36, Try.ntmps36
    go_wp2_with (go_at_call 62; (with_reducible refine (CK.out _).mono ?_); rintro e w1 ⟨rfl, hb⟩; have n0 := Aside0.mk (below_step HB.out hb); have n1 := Aside0.mk ((hb.block _ (by simp)).trans HO.out); clear HB HO hb; have HB := n0; have HO := n1; clear n0 n1; have hc := fun i => blk_cell HO.out i)
    go_ret2
    refine .inr ⟨rfl, w1.heap.size + 1, w1.heap.size, rfl, by have := HB.out.size; omega, by have := HB.out.size; omega, ⟨by simpa using heap_alloc_new (w1.alloc (.map #[] 0)) (.cells (bkA c 0 w1.heap.size) 107), ?_⟩, by repeat (first | exact HB.out | apply below_alloc)⟩
    exact (MapIs.made (c := Value.int .i64) w1 Try.prog 3).move (by rw [Below.heap_alloc _ _ _ (by simp)])
  · have h1 : (code == 0) = false := beq_eq_false_iff_ne.2 h0
    have h2 : (code != 0) = true := bne_iff_ne.2 h0
    have H0 := Aside0.mk h0
    clear h0
    go_enter Try.func36, Try.ntmps36
    go_wp2_with (go_at_call 62; (with_reducible refine (CK.out _).mono ?_); rintro e w1 ⟨rfl, hb⟩; have n0 := Aside0.mk (below_step HB.out hb); have n1 := Aside0.mk ((hb.block _ (by simp)).trans HO.out); clear HB HO hb; have HB := n0; have HO := n1; clear n0 n1; have hc := fun i => blk_cell HO.out i)
    go_ret2
    exact .inl ⟨H0.out, rfl, HB.out⟩
/-- An event's cells. -/
abbrev evA (k wk op cn t dr er : Int) : Array Value := #[.int .i64 k, .int .i64 wk, .int .i64 op, .int .i64 cn, .int .i64 t, .int .i64 dr, .int .i64 er]
/-- A book, an event, and a state of the call's own. -/
structure Held (w W : World) (g m s : Nat) (c : Cf) (clock : Int) (F : SM) (ev : Array Value) (tb : Nat) (ts : Array Value) : Prop where
  below : Below w.heap.size w W
  book : BookIs W g m s c clock F
  ev_ : W.heap[w.heap.size]? = some (.cells ev 60 (0, 0))
  st_ : W.heap[tb]? = some (.cells ts 56 (0, 0))
section
variable {w W W1 : World} {g m s tb : Nat} {c : Cf} {clock : Int} {F : SM} {ev ts : Array Value}
theorem Held.step (h : Held w W g m s c clock F ev tb ts) (hb : Below W.heap.size W W1) : Held w W1 g m s c clock F ev tb ts :=
  ⟨below_step h.below hb, h.book.below hb, (hb.block _ (blk_lt h.ev_)).trans h.ev_, (hb.block _ (blk_lt h.st_)).trans h.st_⟩
theorem Held.drew (h : Held w W g m s c clock F ev tb ts) : Held w W.drew g m s c clock F ev tb ts := ⟨Below.drew h.below, h.book.drew, h.ev_, h.st_⟩
theorem Held.drewN (h : Held w W g m s c clock F ev tb ts) (n : Nat) : Held w (W.drewN n) g m s c clock F ev tb ts := ⟨pw_below_drewN h.below n, h.book.move rfl rfl, h.ev_, h.st_⟩
/-- What a walk reads of them. -/
def Held.Cells (W : World) (g m : Nat) (c : Cf) (clock : Int) (eb : Nat) (ev : Array Value) (tb : Nat) (ts : Array Value) : Prop :=
  (∀ i, W.cell? ⟨g, i, none⟩ = (bkA c clock m)[i]?) ∧ (∀ i, W.cell? ⟨eb, i, none⟩ = ev[i]?) ∧ (∀ i, W.cell? ⟨tb, i, none⟩ = ts[i]?)
theorem Held.cells (h : Held w W g m s c clock F ev tb ts) : (∀ i, W.cell? ⟨g, i, none⟩ = (bkA c clock m)[i]?) ∧ (∀ i, W.cell? ⟨w.heap.size, i, none⟩ = ev[i]?) ∧ (∀ i, W.cell? ⟨tb, i, none⟩ = ts[i]?) :=
  ⟨fun i => h.book.cell i, fun i => blk_cell h.ev_ i, fun i => blk_cell h.st_ i⟩
end
/-- What an action does: the answer and the states. -/
def actF (F : SM) (clock idle op cn t : Int) : Int × SM :=
  if t > clock then (6, F)
  else if op = 7 ∧ (F.at_ cn).1 = 1 ∧ idle ≤ t then (0, F.put cn (0, 0, 0))
  else if op = 8 ∧ (F.at_ cn).1 = 2 ∧ (F.at_ cn).2.2 ≤ t then (0, F.put cn (3, (F.at_ cn).2.1, t))
  else (6, F)
theorem SetPost.stay {g m s : Nat} {c : Cf} {clock code : Int} {F : SM} {w W : World} (h : BookIs W g m s c clock F) (hb : Below w.heap.size w W) : SetPost g m s c clock F w code (.returned (.int .i64 code)) W :=
  ⟨rfl, s, by omega, h, grown_of_below hb _⟩
theorem SetPost.after {g m s : Nat} {c : Cf} {clock code : Int} {F' : SM} {w W W1 : World} {e : Ending} (h : SetPost g m s c clock F' W code e W1) (hb : Below w.heap.size w W) : SetPost g m s c clock F' w code e W1 := by
  obtain ⟨h1, s', h2, h3, h4⟩ := h
  exact ⟨h1, s', h2, h3, (grown_of_below hb _).trans h4⟩
set_option maxHeartbeats 4000000 in
set_option maxRecDepth 100000 in
theorem act_late {g m s : Nat} {c : Cf} {clock : Int} {F : SM} (k wk op cn t dr er : Int) (hx : (Lit.int .i64 cn).wf = true) (ht : t > clock) (w : World) (hB : BookIs w g m s c clock F) :
    Calls Try.prog 64 #[.pointer (some ⟨g, 0, none⟩), .agg (evA k wk op cn t dr er)] w (SetPost g m s c clock F w 6) := by
  have hu := Try.underlying107
  have hu2 := Try.underlying56
  have hu3 := Try.underlying60
  have hu4 := Try.underlying36
  have CS := Aside0.mk (fun W h => state_any (F := F) (g := g) (m := m) (s := s) (c := c) (clock := clock) cn hx W h)
  obtain ⟨a, b, d, hS⟩ : ∃ a b d, F.at_ cn = (a, b, d) := ⟨_, _, _, rfl⟩
  rw [hS] at CS
  clear hS
  have g1 : decide (t > clock) = true := decide_eq_true ht
  have hlt := hB.glt
  have hc := fun i => hB.cell i
  have HB := Aside0.mk hB
  clear hB hx
  go_enter Try.func64, Try.ntmps64
  go_wp2_with (go_at_call 37; (with_reducible refine (CS.out _ (HB.out.alloc _)).mono ?_); rintro e w1 ⟨rfl, hb⟩; have n1 := Aside0.mk (show Below w.heap.size w w1 from below_step (below_alloc (Below.refl _ _) _) hb); have n2 := Aside0.mk ((HB.out.alloc _).below hb); have n3 := Aside0.mk ((hb.block w.heap.size (by simp)).trans (heap_alloc_new w (.cells (evA k wk op cn t dr er) 60))); have hl1 : g < w1.heap.size := n2.out.glt; have hl2 : w.heap.size < w1.heap.size := blk_lt n3.out; clear hb hc; have hc := fun i => n2.out.cell i; have he := fun i => blk_cell n3.out i)
  go_quiet (fail)
  go_wp2
  go_ret
  exact SetPost.stay (by repeat (first | exact n2.out | apply BookIs.alloc | apply BookIs.drewN)) (by repeat (first | exact n1.out | apply below_alloc | apply pw_below_drewN))

set_option maxHeartbeats 4000000 in
set_option maxRecDepth 100000 in
theorem act_seven {g m s : Nat} {c : Cf} {clock : Int} {F : SM} (k wk op cn t dr er : Int) (hx : (Lit.int .i64 cn).wf = true) (ht : ¬ t > clock) (h7 : op = 7) (ha : ¬ (F.at_ cn).1 = 1) (w : World) (hB : BookIs w g m s c clock F) :
    Calls Try.prog 64 #[.pointer (some ⟨g, 0, none⟩), .agg (evA k wk op cn t dr er)] w (SetPost g m s c clock F w 6) := by
  have hu := Try.underlying107
  have hu2 := Try.underlying56
  have hu3 := Try.underlying60
  have hu4 := Try.underlying36
  have CS := Aside0.mk (fun W h => state_any (F := F) (g := g) (m := m) (s := s) (c := c) (clock := clock) cn hx W h)
  obtain ⟨a, b, d, hS⟩ : ∃ a b d, F.at_ cn = (a, b, d) := ⟨_, _, _, rfl⟩
  rw [hS] at CS ha
  clear hS
  subst h7
  have g1 : decide (t > clock) = false := decide_eq_false ht
  have g2 : (a == 1) = false := beq_eq_false_iff_ne.2 ha
  clear ha ht
  have hlt := hB.glt
  have hc := fun i => hB.cell i
  have HB := Aside0.mk hB
  clear hB hx
  go_enter Try.func64, Try.ntmps64
  go_wp2_with (go_at_call 37; (with_reducible refine (CS.out _ (HB.out.alloc _)).mono ?_); rintro e w1 ⟨rfl, hb⟩; have n1 := Aside0.mk (show Below w.heap.size w w1 from below_step (below_alloc (Below.refl _ _) _) hb); have n2 := Aside0.mk ((HB.out.alloc _).below hb); have n3 := Aside0.mk ((hb.block w.heap.size (by simp)).trans (heap_alloc_new w (.cells (evA k wk 7 cn t dr er) 60))); have hl1 : g < w1.heap.size := n2.out.glt; have hl2 : w.heap.size < w1.heap.size := blk_lt n3.out; clear hb hc; have hc := fun i => n2.out.cell i; have he := fun i => blk_cell n3.out i)
  go_quiet (fail)
  go_wp2
  go_quiet (fail)
  go_wp2
  go_ret
  exact SetPost.stay (by repeat (first | exact n2.out | apply BookIs.alloc | apply BookIs.drewN)) (by repeat (first | exact n1.out | apply below_alloc | apply pw_below_drewN))

set_option maxHeartbeats 4000000 in
set_option maxRecDepth 100000 in
theorem act_eight {g m s : Nat} {c : Cf} {clock : Int} {F : SM} (k wk op cn t dr er : Int) (hx : (Lit.int .i64 cn).wf = true) (hs : s < 1000000) (ht : ¬ t > clock) (h8 : op = 8) (ha : (F.at_ cn).1 = 2) (hd : (F.at_ cn).2.2 ≤ t) (w : World) (hB : BookIs w g m s c clock F) :
    Calls Try.prog 64 #[.pointer (some ⟨g, 0, none⟩), .agg (evA k wk op cn t dr er)] w (SetPost g m s c clock (F.put cn (3, (F.at_ cn).2.1, t)) w 0) := by
  have hu := Try.underlying107
  have hu2 := Try.underlying56
  have hu3 := Try.underlying60
  have hu4 := Try.underlying36
  have CS := Aside0.mk (fun W h => state_any (F := F) (g := g) (m := m) (s := s) (c := c) (clock := clock) cn hx W h)
  have CP := Aside0.mk (fun W h t => set_any (F := F) (g := g) (m := m) (s := s) (c := c) (clock := clock) cn hx t hs W h)
  obtain ⟨a, b, d, hS⟩ : ∃ a b d, F.at_ cn = (a, b, d) := ⟨_, _, _, rfl⟩
  rw [hS] at CS ha hd ⊢
  clear hS
  subst h8
  obtain rfl : a = 2 := ha
  have g1 : decide (t > clock) = false := decide_eq_false ht
  have g2 : decide (d ≤ t) = true := decide_eq_true hd
  clear ht hd
  have hlt := hB.glt
  have hc := fun i => hB.cell i
  have HB := Aside0.mk hB
  clear hB hx
  go_enter Try.func64, Try.ntmps64
  go_wp2_with (go_at_call 37; (with_reducible refine (CS.out _ (HB.out.alloc _)).mono ?_); rintro e w1 ⟨rfl, hb⟩; have n1 := Aside0.mk (show Below w.heap.size w w1 from below_step (below_alloc (Below.refl _ _) _) hb); have n2 := Aside0.mk ((HB.out.alloc _).below hb); have n3 := Aside0.mk ((hb.block w.heap.size (by simp)).trans (heap_alloc_new w (.cells (evA k wk 8 cn t dr er) 60))); have hl1 : g < w1.heap.size := n2.out.glt; have hl2 : w.heap.size < w1.heap.size := blk_lt n3.out; clear hb hc; have hc := fun i => n2.out.cell i; have he := fun i => blk_cell n3.out i)
  go_quiet (fail)
  go_wp2
  go_quiet (fail)
  go_wp2_with (go_at_call 66; refine (CP.out _ (by repeat (first | exact n2.out | apply BookIs.alloc | apply BookIs.drewN)) (3, b, t)).mono ?_; rintro e w5 ⟨rfl, hp⟩)
  go_ret
  exact SetPost.after ⟨rfl, hp⟩ (by repeat (first | exact n1.out | apply below_alloc | apply pw_below_drewN))

set_option maxHeartbeats 4000000 in
set_option maxRecDepth 100000 in
theorem act_none {g m s : Nat} {c : Cf} {clock : Int} {F : SM} (k wk op cn t dr er : Int) (hx : (Lit.int .i64 cn).wf = true) (ht : ¬ t > clock) (h7 : ¬ op = 7) (h8 : ¬ (op = 8 ∧ (F.at_ cn).1 = 2 ∧ (F.at_ cn).2.2 ≤ t)) (w : World) (hB : BookIs w g m s c clock F) :
    Calls Try.prog 64 #[.pointer (some ⟨g, 0, none⟩), .agg (evA k wk op cn t dr er)] w (SetPost g m s c clock F w 6) := by
  have hu := Try.underlying107
  have hu2 := Try.underlying56
  have hu3 := Try.underlying60
  have hu4 := Try.underlying36
  have CS := Aside0.mk (fun W h => state_any (F := F) (g := g) (m := m) (s := s) (c := c) (clock := clock) cn hx W h)
  obtain ⟨a, b, d, hS⟩ : ∃ a b d, F.at_ cn = (a, b, d) := ⟨_, _, _, rfl⟩
  rw [hS] at CS h8
  clear hS
  have g1 : decide (t > clock) = false := decide_eq_false ht
  have g2 : (op == 7) = false := beq_eq_false_iff_ne.2 h7
  have H8 := Aside0.mk h8
  clear h7 ht h8
  have hlt := hB.glt
  have hc := fun i => hB.cell i
  have HB := Aside0.mk hB
  clear hB hx
  go_enter Try.func64, Try.ntmps64
  go_wp2_with (go_at_call 37; (with_reducible refine (CS.out _ (HB.out.alloc _)).mono ?_); rintro e w1 ⟨rfl, hb⟩; have n1 := Aside0.mk (show Below w.heap.size w w1 from below_step (below_alloc (Below.refl _ _) _) hb); have n2 := Aside0.mk ((HB.out.alloc _).below hb); have n3 := Aside0.mk ((hb.block w.heap.size (by simp)).trans (heap_alloc_new w (.cells (evA k wk op cn t dr er) 60))); have hl1 : g < w1.heap.size := n2.out.glt; have hl2 : w.heap.size < w1.heap.size := blk_lt n3.out; clear hb hc; have hc := fun i => n2.out.cell i; have he := fun i => blk_cell n3.out i)
  go_quiet (fail)
  go_wp2
  go_quiet (fail)
  go_wp2
  all_goals first
    | (go_ret
       exact SetPost.stay (by repeat (first | exact n2.out | apply BookIs.alloc | apply BookIs.drewN)) (by repeat (first | exact n1.out | apply below_alloc | apply pw_below_drewN)))
    | (exfalso
       have h8 := H8.out
       simp_all)

set_option maxHeartbeats 4000000 in
set_option maxRecDepth 100000 in
theorem act_idle {g m s : Nat} {c : Cf} {clock : Int} {F : SM} (k wk op cn t dr er : Int) (hx : (Lit.int .i64 cn).wf = true) (hs : s < 1000000) (idle : Int) (ht : ¬ t > clock) (h7 : op = 7) (ha : (F.at_ cn).1 = 1) (hi : idle ≤ t) (ci : ∀ W, Calls Try.prog 31 #[.agg c.cells, .int .i64 (F.at_ cn).2.2] W fun e w' => e = .returned (.int .i64 idle) ∧ Below W.heap.size W w') (w : World) (hB : BookIs w g m s c clock F) :
    Calls Try.prog 64 #[.pointer (some ⟨g, 0, none⟩), .agg (evA k wk op cn t dr er)] w (SetPost g m s c clock (F.put cn (0, 0, 0)) w 0) := by
  have hu := Try.underlying107
  have hu2 := Try.underlying56
  have hu3 := Try.underlying60
  have hu4 := Try.underlying36
  have CS := Aside0.mk (fun W h => state_any (F := F) (g := g) (m := m) (s := s) (c := c) (clock := clock) cn hx W h)
  have CP := Aside0.mk (fun W h t => set_any (F := F) (g := g) (m := m) (s := s) (c := c) (clock := clock) cn hx t hs W h)
  have CI := Aside0.mk ci
  clear ci
  obtain ⟨a, b, d, hS⟩ : ∃ a b d, F.at_ cn = (a, b, d) := ⟨_, _, _, rfl⟩
  rw [hS] at CS ha CI
  clear hS
  subst h7
  obtain rfl : a = 1 := ha
  have g1 : decide (t > clock) = false := decide_eq_false ht
  have g2 : decide (idle ≤ t) = true := decide_eq_true hi
  clear ht hi
  have hlt := hB.glt
  have hc := fun i => hB.cell i
  have HB := Aside0.mk hB
  clear hB hx
  go_enter Try.func64, Try.ntmps64
  go_wp2_with (go_at_call 37; (with_reducible refine (CS.out _ (HB.out.alloc _)).mono ?_); rintro e w1 ⟨rfl, hb⟩; have n1 := Aside0.mk (show Below w.heap.size w w1 from below_step (below_alloc (Below.refl _ _) _) hb); have n2 := Aside0.mk ((HB.out.alloc _).below hb); have n3 := Aside0.mk ((hb.block w.heap.size (by simp)).trans (heap_alloc_new w (.cells (evA k wk 7 cn t dr er) 60))); have hl1 : g < w1.heap.size := n2.out.glt; have hl2 : w.heap.size < w1.heap.size := blk_lt n3.out; clear hb hc; have hc := fun i => n2.out.cell i; have he := fun i => blk_cell n3.out i)
  go_quiet (fail)
  go_wp2
  have HT := Aside0.mk (show Held w (w1.alloc (.cells (stA (1, b, d)) 56)) g m s c clock F (evA k wk 7 cn t dr er) w1.heap.size (stA (1, b, d)) from ⟨below_alloc n1.out _, n2.out.alloc _, (Below.heap_alloc w1 _ _ hl2).trans n3.out, heap_alloc_new w1 _⟩)
  clear hc he
  go_region_held3 (fun w' => (∀ i, w'.cell? ⟨g, i, none⟩ = (bkA c clock m)[i]?) ∧ (∀ i, w'.cell? ⟨w.heap.size, i, none⟩ = (evA k wk 7 cn t dr er)[i]?) ∧ (∀ i, w'.cell? ⟨w1.heap.size, i, none⟩ = (stA (1, b, d))[i]?)) (exact HT.out.cells) ((go_at_call 31; (with_reducible refine (CI.out _).mono ?_); rintro e w2 ⟨rfl, hb⟩; have n9 := Aside0.mk (show Held w w2 g m s c clock F (evA k wk 7 cn t dr er) w1.heap.size (stA (1, b, d)) from (by first | exact ((HT.out.drewN _).drew).step hb | exact HT.out.drew.step hb | exact HT.out.step hb)); clear HT hb; have HT := n9; clear n9))
  go_wp2_with (go_at_call 66; refine (CP.out _ HT.out.book (0, 0, 0)).mono ?_; rintro e w5 ⟨rfl, hp⟩)
  go_ret
  exact SetPost.after ⟨rfl, hp⟩ HT.out.below

set_option maxHeartbeats 4000000 in
set_option maxRecDepth 100000 in
theorem act_busy {g m s : Nat} {c : Cf} {clock : Int} {F : SM} (k wk op cn t dr er : Int) (hx : (Lit.int .i64 cn).wf = true) (hs : s < 1000000) (idle : Int) (ht : ¬ t > clock) (h7 : op = 7) (ha : (F.at_ cn).1 = 1) (hi : ¬ idle ≤ t) (ci : ∀ W, Calls Try.prog 31 #[.agg c.cells, .int .i64 (F.at_ cn).2.2] W fun e w' => e = .returned (.int .i64 idle) ∧ Below W.heap.size W w') (w : World) (hB : BookIs w g m s c clock F) :
    Calls Try.prog 64 #[.pointer (some ⟨g, 0, none⟩), .agg (evA k wk op cn t dr er)] w (SetPost g m s c clock F w 6) := by
  have hu := Try.underlying107
  have hu2 := Try.underlying56
  have hu3 := Try.underlying60
  have hu4 := Try.underlying36
  have CS := Aside0.mk (fun W h => state_any (F := F) (g := g) (m := m) (s := s) (c := c) (clock := clock) cn hx W h)
  have CP := Aside0.mk (fun W h t => set_any (F := F) (g := g) (m := m) (s := s) (c := c) (clock := clock) cn hx t hs W h)
  have CI := Aside0.mk ci
  clear ci
  obtain ⟨a, b, d, hS⟩ : ∃ a b d, F.at_ cn = (a, b, d) := ⟨_, _, _, rfl⟩
  rw [hS] at CS ha CI
  clear hS
  subst h7
  obtain rfl : a = 1 := ha
  have g1 : decide (t > clock) = false := decide_eq_false ht
  have g2 : decide (idle ≤ t) = false := decide_eq_false hi
  clear ht hi
  have hlt := hB.glt
  have hc := fun i => hB.cell i
  have HB := Aside0.mk hB
  clear hB hx
  go_enter Try.func64, Try.ntmps64
  go_wp2_with (go_at_call 37; (with_reducible refine (CS.out _ (HB.out.alloc _)).mono ?_); rintro e w1 ⟨rfl, hb⟩; have n1 := Aside0.mk (show Below w.heap.size w w1 from below_step (below_alloc (Below.refl _ _) _) hb); have n2 := Aside0.mk ((HB.out.alloc _).below hb); have n3 := Aside0.mk ((hb.block w.heap.size (by simp)).trans (heap_alloc_new w (.cells (evA k wk 7 cn t dr er) 60))); have hl1 : g < w1.heap.size := n2.out.glt; have hl2 : w.heap.size < w1.heap.size := blk_lt n3.out; clear hb hc; have hc := fun i => n2.out.cell i; have he := fun i => blk_cell n3.out i)
  go_quiet (fail)
  go_wp2
  have HT := Aside0.mk (show Held w (w1.alloc (.cells (stA (1, b, d)) 56)) g m s c clock F (evA k wk 7 cn t dr er) w1.heap.size (stA (1, b, d)) from ⟨below_alloc n1.out _, n2.out.alloc _, (Below.heap_alloc w1 _ _ hl2).trans n3.out, heap_alloc_new w1 _⟩)
  clear hc he
  go_region_held3 (fun w' => (∀ i, w'.cell? ⟨g, i, none⟩ = (bkA c clock m)[i]?) ∧ (∀ i, w'.cell? ⟨w.heap.size, i, none⟩ = (evA k wk 7 cn t dr er)[i]?) ∧ (∀ i, w'.cell? ⟨w1.heap.size, i, none⟩ = (stA (1, b, d))[i]?)) (exact HT.out.cells) ((go_at_call 31; (with_reducible refine (CI.out _).mono ?_); rintro e w2 ⟨rfl, hb⟩; have n9 := Aside0.mk (show Held w w2 g m s c clock F (evA k wk 7 cn t dr er) w1.heap.size (stA (1, b, d)) from (by first | exact ((HT.out.drewN _).drew).step hb | exact HT.out.drew.step hb | exact HT.out.step hb)); clear HT hb; have HT := n9; clear n9))
  have hcs := HT.out.cells
  have hcg := hcs.1
  have hce := hcs.2.1
  have hct := hcs.2.2
  clear hcs
  go_wp2
  go_ret
  exact SetPost.stay HT.out.book HT.out.below
end Go.Proofs.Ythljanmfanppdaa.Bk
