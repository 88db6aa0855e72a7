/- What is proved: what (*Book).after tells: the state behind an operation, its answer, and whether it can be; connections' numbers and times fit into 64 bits. -/
import Derived.Test.YthljanmfanppdaaBl
namespace Go.Proofs.Ythljanmfanppdaa.Bk
open Go.RowKit Go.Maps Go.Proofs.YthljanmfanppdaaW.PrintWords Go.Proofs.YthljanmfanppdaaW.PrintLast Go.Proofs.YthljanmfanppdaaW.PrintMore Go.Proofs.Ythljanmfanppdaa.Mp
set_option linter.unusedVariables false
set_option linter.unusedSimpArgs false
/-- A book, an event, and the result's cells. -/
structure Held2 (w W : World) (g m s : Nat) (c : Cf) (clock : Int) (F : SM) (ev rs : Array Value) : Prop where
  below : Below w.heap.size w W
  book : BookIs W g m s c clock F
  ev_ : W.heap[w.heap.size]? = some (.cells ev 60 (0, 0))
  rs_ : W.heap[w.heap.size + 1]? = some (.cells rs 56 (0, 0))
section
variable {w W W1 : World} {g m s : Nat} {c : Cf} {clock : Int} {F : SM} {ev rs : Array Value}
theorem Held2.start (h : BookIs w g m s c clock F) (ev rs : Array Value) : Held2 w ((w.alloc (.cells ev 60)).alloc (.cells rs 56)) g m s c clock F ev rs :=
  ⟨below_alloc (below_alloc (Below.refl _ _) _) _, (h.alloc _).alloc _, (Below.heap_alloc _ _ _ (by simp)).trans (heap_alloc_new w _), by simpa using heap_alloc_new (w.alloc (.cells ev 60)) (.cells rs 56)⟩
theorem Held2.step (h : Held2 w W g m s c clock F ev rs) (hb : Below W.heap.size W W1) : Held2 w W1 g m s c clock F ev rs :=
  ⟨below_step h.below hb, h.book.below hb, (hb.block _ (blk_lt h.ev_)).trans h.ev_, (hb.block _ (blk_lt h.rs_)).trans h.rs_⟩
end
/-- Beside them a state of the call's own. -/
structure Held3 (w W : World) (g m s : Nat) (c : Cf) (clock : Int) (F : SM) (ev rs : Array Value) (tb : Nat) (ts : Array Value) : Prop where
  two : Held2 w W g m s c clock F ev rs
  st_ : W.heap[tb]? = some (.cells ts 56 (0, 0))
section
variable {w W W1 : World} {g m s tb : Nat} {c : Cf} {clock : Int} {F : SM} {ev rs ts : Array Value}
theorem Held3.step (h : Held3 w W g m s c clock F ev rs tb ts) (hb : Below W.heap.size W W1) : Held3 w W1 g m s c clock F ev rs tb ts := ⟨h.two.step hb, (hb.block _ (blk_lt h.st_)).trans h.st_⟩
theorem Held3.drew (h : Held3 w W g m s c clock F ev rs tb ts) : Held3 w W.drew g m s c clock F ev rs tb ts := ⟨⟨Below.drew h.two.below, h.two.book.drew, h.two.ev_, h.two.rs_⟩, h.st_⟩
theorem Held3.drewN (h : Held3 w W g m s c clock F ev rs tb ts) (n : Nat) : Held3 w (W.drewN n) g m s c clock F ev rs tb ts := ⟨⟨pw_below_drewN h.two.below n, h.two.book.drewN n, h.two.ev_, h.two.rs_⟩, h.st_⟩
theorem Held3.cells (h : Held3 w W g m s c clock F ev rs tb ts) : (∀ i, W.cell? ⟨g, i, none⟩ = (bkA c clock m)[i]?) ∧ (∀ i, W.cell? ⟨w.heap.size, i, none⟩ = ev[i]?) ∧ (∀ i, W.cell? ⟨tb, i, none⟩ = ts[i]?) :=
  ⟨fun i => h.two.book.cell i, fun i => blk_cell h.two.ev_ i, fun i => blk_cell h.st_ i⟩
theorem cell_put {W : World} {g rb : Nat} {cs : Array Value} (h : ∀ i, W.cell? ⟨g, i, none⟩ = cs[i]?) (hne : g ≠ rb) (j : Nat) (u : Value) (i : Nat) : (W.setCell ⟨rb, j, none⟩ u).cell? ⟨g, i, none⟩ = cs[i]? := by
  rw [← h i]
  exact World.cell?_of_block (Below.heap_setCell W ⟨rb, j, none⟩ u g hne)
theorem Held3.cells_put (h : Held3 w W g m s c clock F ev rs tb ts) (hg : g ≠ w.heap.size + 1) (ht : tb ≠ w.heap.size + 1) (x y z : Value) : (∀ i, (((W.setCell ⟨w.heap.size + 1, 0, none⟩ x).setCell ⟨w.heap.size + 1, 1, none⟩ y).setCell ⟨w.heap.size + 1, 2, none⟩ z).cell? ⟨g, i, none⟩ = (bkA c clock m)[i]?) ∧
    (∀ i, (((W.setCell ⟨w.heap.size + 1, 0, none⟩ x).setCell ⟨w.heap.size + 1, 1, none⟩ y).setCell ⟨w.heap.size + 1, 2, none⟩ z).cell? ⟨w.heap.size, i, none⟩ = ev[i]?) ∧
    (∀ i, (((W.setCell ⟨w.heap.size + 1, 0, none⟩ x).setCell ⟨w.heap.size + 1, 1, none⟩ y).setCell ⟨w.heap.size + 1, 2, none⟩ z).cell? ⟨tb, i, none⟩ = ts[i]?) :=
  ⟨cell_put (cell_put (cell_put h.cells.1 hg 0 x) hg 1 y) hg 2 z, cell_put (cell_put (cell_put h.cells.2.1 (by omega) 0 x) (by omega) 1 y) (by omega) 2 z, cell_put (cell_put (cell_put h.cells.2.2 ht 0 x) ht 1 y) ht 2 z⟩
end
theorem blk_frozen_ {w : World} {g : Nat} {cs : Array Value} {t : TypeId} (h : w.heap[g]? = some (.cells cs t (0, 0))) (i : Nat) : w.frozen? ⟨g, i, none⟩ = false := by simp [World.frozen?, h]
def AfterPost (s : St) (code : Int) (can : Bool) (w : World) (e : Ending) (w' : World) : Prop := e = .returned (.tuple #[stV s, .int .i64 code, .bool can]) ∧ Below w.heap.size w w'

set_option maxHeartbeats 4000000 in
set_option maxRecDepth 100000 in
theorem after_open {g m s : Nat} {c : Cf} {clock : Int} {F : SM} (k wk op cn t dr er draw : Int) (hx : (Lit.int .i64 cn).wf = true) (ho : op = 1) (ha : (F.at_ cn).1 = 0) (hin : cn ≥ 0 ∧ cn < c.c7) (w : World) (hB : BookIs w g m s c clock F) :
    Calls Try.prog 65 #[.pointer (some ⟨g, 0, none⟩), .agg (evA k wk op cn t dr er), .int .i64 draw] w (AfterPost (1, 0, t) 0 true w) := by
  have hu := Try.underlying107
  have hu2 := Try.underlying56
  have hu3 := Try.underlying60
  have hu4 := Try.underlying36
  have CS := Aside0.mk (fun W h => state_any (F := F) (g := g) (m := m) (s := s) (c := c) (clock := clock) cn hx W h)
  obtain ⟨a, b, d, hS⟩ : ∃ a b d, F.at_ cn = (a, b, d) := ⟨_, _, _, rfl⟩
  rw [hS] at CS ha
  clear hS
  subst ho
  obtain rfl : a = 0 := ha
  have hlt := hB.glt
  have hc := fun i => hB.cell i
  have HB := Aside0.mk hB
  clear hB hx
  have p1 : decide (cn ≥ 0) = true := decide_eq_true hin.1
  have p2 : decide (cn < c.c7) = true := decide_eq_true hin.2
  clear hin
  all_goals
    go_enter Try.func65, Try.ntmps65
    go_wp2_with (go_at_call 37; (with_reducible refine (CS.out _ ((HB.out.alloc _).alloc _)).mono ?_); rintro e w1 ⟨rfl, hb⟩; have n1 := Aside0.mk ((Held2.start HB.out (evA k wk 1 cn t dr er) (stA (0, 0, 0))).step hb); have hl1 : g < w1.heap.size := n1.out.book.glt; have hl2 : w.heap.size < w1.heap.size := blk_lt n1.out.ev_; have hl3 : w.heap.size + 1 < w1.heap.size := blk_lt n1.out.rs_; clear hb hc; have hc := fun i => n1.out.book.cell i; have he := fun i => blk_cell n1.out.ev_ i; have hr := fun i => blk_cell n1.out.rs_ i; have hf := fun i => blk_frozen_ n1.out.rs_ i)
    go_quiet (fail)
    go_wp2
    refine bodyPost_ret (v := .tuple #[.agg #[.int .i64 (1), .int .i64 (0), .int .i64 (t)], .int .i64 0, .bool true]) ?_ rfl ⟨rfl, ?_⟩
    · simp [results, Try.results65, go_sem, *]
    · exact (by repeat (first | exact n1.out.below | apply below_alloc | apply pw_below_drewN | refine below_set ?_ (by omega)))

set_option maxHeartbeats 4000000 in
set_option maxRecDepth 100000 in
theorem after_touch_a {g m s : Nat} {c : Cf} {clock : Int} {F : SM} (k wk op cn t dr er draw : Int) (hx : (Lit.int .i64 cn).wf = true) (ho : op = 2) (ha : (F.at_ cn).1 = 1) (hd : ¬ t ≤ (F.at_ cn).2.2) (w : World) (hB : BookIs w g m s c clock F) :
    Calls Try.prog 65 #[.pointer (some ⟨g, 0, none⟩), .agg (evA k wk op cn t dr er), .int .i64 draw] w (AfterPost (1, (F.at_ cn).2.1, t) 0 true w) := by
  have hu := Try.underlying107
  have hu2 := Try.underlying56
  have hu3 := Try.underlying60
  have hu4 := Try.underlying36
  have CS := Aside0.mk (fun W h => state_any (F := F) (g := g) (m := m) (s := s) (c := c) (clock := clock) cn hx W h)
  obtain ⟨a, b, d, hS⟩ : ∃ a b d, F.at_ cn = (a, b, d) := ⟨_, _, _, rfl⟩
  rw [hS] at CS ha hd ⊢
  clear hS
  subst ho
  obtain rfl : a = 1 := ha
  have g1 : ¬ t ≤ d := hd
  clear hd
  have hlt := hB.glt
  have hc := fun i => hB.cell i
  have HB := Aside0.mk hB
  clear hB hx
  obtain ⟨x1, x2, hxx⟩ : ∃ x1 x2 : Bool, (decide (cn ≥ 0) = x1) ∧ (decide (cn < c.c7) = x2) ∧ True := ⟨_, _, rfl, rfl, trivial⟩
  obtain ⟨p1, p2, p3⟩ := hxx
  cases x1 <;> cases x2
  all_goals
    go_enter Try.func65, Try.ntmps65
    go_wp2_with (go_at_call 37; (with_reducible refine (CS.out _ ((HB.out.alloc _).alloc _)).mono ?_); rintro e w1 ⟨rfl, hb⟩; have n1 := Aside0.mk ((Held2.start HB.out (evA k wk 2 cn t dr er) (stA (0, 0, 0))).step hb); have hl1 : g < w1.heap.size := n1.out.book.glt; have hl2 : w.heap.size < w1.heap.size := blk_lt n1.out.ev_; have hl3 : w.heap.size + 1 < w1.heap.size := blk_lt n1.out.rs_; clear hb hc; have hc := fun i => n1.out.book.cell i; have he := fun i => blk_cell n1.out.ev_ i; have hr := fun i => blk_cell n1.out.rs_ i; have hf := fun i => blk_frozen_ n1.out.rs_ i)
    go_quiet (fail)
    go_wp2
    all_goals first | (exfalso; omega) | skip
    all_goals
      refine bodyPost_ret (v := .tuple #[.agg #[_, _, _], .int .i64 0, .bool true]) ?_ rfl ⟨rfl, ?_⟩
      · simp [results, Try.results65, go_sem, *]
      · exact (by repeat (first | exact n1.out.below | apply below_alloc | apply pw_below_drewN | refine below_set ?_ (by omega)))

set_option maxHeartbeats 4000000 in
set_option maxRecDepth 100000 in
theorem after_touch_b {g m s : Nat} {c : Cf} {clock : Int} {F : SM} (k wk op cn t dr er draw : Int) (hx : (Lit.int .i64 cn).wf = true) (ho : op = 2) (ha : (F.at_ cn).1 = 1) (hd : t ≤ (F.at_ cn).2.2) (w : World) (hB : BookIs w g m s c clock F) :
    Calls Try.prog 65 #[.pointer (some ⟨g, 0, none⟩), .agg (evA k wk op cn t dr er), .int .i64 draw] w (AfterPost (1, (F.at_ cn).2.1, (F.at_ cn).2.2) 0 true w) := by
  have hu := Try.underlying107
  have hu2 := Try.underlying56
  have hu3 := Try.underlying60
  have hu4 := Try.underlying36
  have CS := Aside0.mk (fun W h => state_any (F := F) (g := g) (m := m) (s := s) (c := c) (clock := clock) cn hx W h)
  obtain ⟨a, b, d, hS⟩ : ∃ a b d, F.at_ cn = (a, b, d) := ⟨_, _, _, rfl⟩
  rw [hS] at CS ha hd ⊢
  clear hS
  subst ho
  obtain rfl : a = 1 := ha
  have g1 : t ≤ d := hd
  clear hd
  have hlt := hB.glt
  have hc := fun i => hB.cell i
  have HB := Aside0.mk hB
  clear hB hx
  obtain ⟨x1, x2, hxx⟩ : ∃ x1 x2 : Bool, (decide (cn ≥ 0) = x1) ∧ (decide (cn < c.c7) = x2) ∧ True := ⟨_, _, rfl, rfl, trivial⟩
  obtain ⟨p1, p2, p3⟩ := hxx
  cases x1 <;> cases x2
  all_goals
    go_enter Try.func65, Try.ntmps65
    go_wp2_with (go_at_call 37; (with_reducible refine (CS.out _ ((HB.out.alloc _).alloc _)).mono ?_); rintro e w1 ⟨rfl, hb⟩; have n1 := Aside0.mk ((Held2.start HB.out (evA k wk 2 cn t dr er) (stA (0, 0, 0))).step hb); have hl1 : g < w1.heap.size := n1.out.book.glt; have hl2 : w.heap.size < w1.heap.size := blk_lt n1.out.ev_; have hl3 : w.heap.size + 1 < w1.heap.size := blk_lt n1.out.rs_; clear hb hc; have hc := fun i => n1.out.book.cell i; have he := fun i => blk_cell n1.out.ev_ i; have hr := fun i => blk_cell n1.out.rs_ i; have hf := fun i => blk_frozen_ n1.out.rs_ i)
    go_quiet (fail)
    go_wp2
    all_goals first | (exfalso; omega) | skip
    all_goals
      refine bodyPost_ret (v := .tuple #[.agg #[_, _, _], .int .i64 0, .bool true]) ?_ rfl ⟨rfl, ?_⟩
      · simp [results, Try.results65, go_sem, *]
      · exact (by repeat (first | exact n1.out.below | apply below_alloc | apply pw_below_drewN | refine below_set ?_ (by omega)))

set_option maxHeartbeats 4000000 in
set_option maxRecDepth 100000 in
theorem after_close {g m s : Nat} {c : Cf} {clock : Int} {F : SM} (k wk op cn t dr er draw : Int) (hx : (Lit.int .i64 cn).wf = true) (ho : op = 3) (ha : ¬ (F.at_ cn).1 = 0) (w : World) (hB : BookIs w g m s c clock F) :
    Calls Try.prog 65 #[.pointer (some ⟨g, 0, none⟩), .agg (evA k wk op cn t dr er), .int .i64 draw] w (AfterPost (0, 0, 0) 0 true w) := by
  have hu := Try.underlying107
  have hu2 := Try.underlying56
  have hu3 := Try.underlying60
  have hu4 := Try.underlying36
  have CS := Aside0.mk (fun W h => state_any (F := F) (g := g) (m := m) (s := s) (c := c) (clock := clock) cn hx W h)
  obtain ⟨a, b, d, hS⟩ : ∃ a b d, F.at_ cn = (a, b, d) := ⟨_, _, _, rfl⟩
  rw [hS] at CS ha
  clear hS
  subst ho
  have g1 : (a == 0) = false := beq_eq_false_iff_ne.2 ha
  have g2 : (a != 0) = true := bne_iff_ne.2 ha
  clear ha
  have hlt := hB.glt
  have hc := fun i => hB.cell i
  have HB := Aside0.mk hB
  clear hB hx
  obtain ⟨x1, x2, hxx⟩ : ∃ x1 x2 : Bool, (decide (cn ≥ 0) = x1) ∧ (decide (cn < c.c7) = x2) ∧ True := ⟨_, _, rfl, rfl, trivial⟩
  obtain ⟨p1, p2, p3⟩ := hxx
  cases x1 <;> cases x2
  all_goals
    go_enter Try.func65, Try.ntmps65
    go_wp2_with (go_at_call 37; (with_reducible refine (CS.out _ ((HB.out.alloc _).alloc _)).mono ?_); rintro e w1 ⟨rfl, hb⟩; have n1 := Aside0.mk ((Held2.start HB.out (evA k wk 3 cn t dr er) (stA (0, 0, 0))).step hb); have hl1 : g < w1.heap.size := n1.out.book.glt; have hl2 : w.heap.size < w1.heap.size := blk_lt n1.out.ev_; have hl3 : w.heap.size + 1 < w1.heap.size := blk_lt n1.out.rs_; clear hb hc; have hc := fun i => n1.out.book.cell i; have he := fun i => blk_cell n1.out.ev_ i; have hr := fun i => blk_cell n1.out.rs_ i; have hf := fun i => blk_frozen_ n1.out.rs_ i)
    go_quiet (fail)
    go_wp2
    refine bodyPost_ret (v := .tuple #[.agg #[.int .i64 (0), .int .i64 (0), .int .i64 (0)], .int .i64 0, .bool true]) ?_ rfl ⟨rfl, ?_⟩
    · simp [results, Try.results65, go_sem, *]
    · exact (by repeat (first | exact n1.out.below | apply below_alloc | apply pw_below_drewN | refine below_set ?_ (by omega)))

set_option maxHeartbeats 4000000 in
set_option maxRecDepth 100000 in
theorem after_success {g m s : Nat} {c : Cf} {clock : Int} {F : SM} (k wk op cn t dr er draw : Int) (hx : (Lit.int .i64 cn).wf = true) (ho : op = 5) (ha : (F.at_ cn).1 = 3) (w : World) (hB : BookIs w g m s c clock F) :
    Calls Try.prog 65 #[.pointer (some ⟨g, 0, none⟩), .agg (evA k wk op cn t dr er), .int .i64 draw] w (AfterPost (1, 0, t) 0 true w) := by
  have hu := Try.underlying107
  have hu2 := Try.underlying56
  have hu3 := Try.underlying60
  have hu4 := Try.underlying36
  have CS := Aside0.mk (fun W h => state_any (F := F) (g := g) (m := m) (s := s) (c := c) (clock := clock) cn hx W h)
  obtain ⟨a, b, d, hS⟩ : ∃ a b d, F.at_ cn = (a, b, d) := ⟨_, _, _, rfl⟩
  rw [hS] at CS ha
  clear hS
  subst ho
  obtain rfl : a = 3 := ha
  have hlt := hB.glt
  have hc := fun i => hB.cell i
  have HB := Aside0.mk hB
  clear hB hx
  obtain ⟨x1, x2, hxx⟩ : ∃ x1 x2 : Bool, (decide (cn ≥ 0) = x1) ∧ (decide (cn < c.c7) = x2) ∧ True := ⟨_, _, rfl, rfl, trivial⟩
  obtain ⟨p1, p2, p3⟩ := hxx
  cases x1 <;> cases x2
  all_goals
    go_enter Try.func65, Try.ntmps65
    go_wp2_with (go_at_call 37; (with_reducible refine (CS.out _ ((HB.out.alloc _).alloc _)).mono ?_); rintro e w1 ⟨rfl, hb⟩; have n1 := Aside0.mk ((Held2.start HB.out (evA k wk 5 cn t dr er) (stA (0, 0, 0))).step hb); have hl1 : g < w1.heap.size := n1.out.book.glt; have hl2 : w.heap.size < w1.heap.size := blk_lt n1.out.ev_; have hl3 : w.heap.size + 1 < w1.heap.size := blk_lt n1.out.rs_; clear hb hc; have hc := fun i => n1.out.book.cell i; have he := fun i => blk_cell n1.out.ev_ i; have hr := fun i => blk_cell n1.out.rs_ i; have hf := fun i => blk_frozen_ n1.out.rs_ i)
    go_quiet (fail)
    go_wp2
    refine bodyPost_ret (v := .tuple #[.agg #[.int .i64 (1), .int .i64 (0), .int .i64 (t)], .int .i64 0, .bool true]) ?_ rfl ⟨rfl, ?_⟩
    · simp [results, Try.results65, go_sem, *]
    · exact (by repeat (first | exact n1.out.below | apply below_alloc | apply pw_below_drewN | refine below_set ?_ (by omega)))

set_option maxHeartbeats 4000000 in
set_option maxRecDepth 100000 in
theorem after_fail1 {g m s : Nat} {c : Cf} {clock : Int} {F : SM} (k wk op cn t dr er draw : Int) (hx : (Lit.int .i64 cn).wf = true) (ho : op = 4) (ha : (F.at_ cn).1 = 1) (hb : (F.at_ cn).2.1 ≥ c.c12) (w : World) (hB : BookIs w g m s c clock F) :
    Calls Try.prog 65 #[.pointer (some ⟨g, 0, none⟩), .agg (evA k wk op cn t dr er), .int .i64 draw] w (AfterPost (0, 0, 0) 5 true w) := by
  have hu := Try.underlying107
  have hu2 := Try.underlying56
  have hu3 := Try.underlying60
  have hu4 := Try.underlying36
  have CS := Aside0.mk (fun W h => state_any (F := F) (g := g) (m := m) (s := s) (c := c) (clock := clock) cn hx W h)
  obtain ⟨a, b, d, hS⟩ : ∃ a b d, F.at_ cn = (a, b, d) := ⟨_, _, _, rfl⟩
  rw [hS] at CS ha hb
  clear hS
  subst ho
  obtain rfl : a = 1 := ha
  have g1 : decide (b ≥ c.c12) = true := decide_eq_true hb
  clear hb
  have hlt := hB.glt
  have hc := fun i => hB.cell i
  have HB := Aside0.mk hB
  clear hB hx
  obtain ⟨x1, x2, hxx⟩ : ∃ x1 x2 : Bool, (decide (cn ≥ 0) = x1) ∧ (decide (cn < c.c7) = x2) ∧ True := ⟨_, _, rfl, rfl, trivial⟩
  obtain ⟨p1, p2, p3⟩ := hxx
  cases x1 <;> cases x2
  all_goals
    go_enter Try.func65, Try.ntmps65
    go_wp2_with (go_at_call 37; (with_reducible refine (CS.out _ ((HB.out.alloc _).alloc _)).mono ?_); rintro e w1 ⟨rfl, hb⟩; have n1 := Aside0.mk ((Held2.start HB.out (evA k wk 4 cn t dr er) (stA (0, 0, 0))).step hb); have hl1 : g < w1.heap.size := n1.out.book.glt; have hl2 : w.heap.size < w1.heap.size := blk_lt n1.out.ev_; have hl3 : w.heap.size + 1 < w1.heap.size := blk_lt n1.out.rs_; clear hb hc; have hc := fun i => n1.out.book.cell i; have he := fun i => blk_cell n1.out.ev_ i; have hr := fun i => blk_cell n1.out.rs_ i; have hf := fun i => blk_frozen_ n1.out.rs_ i)
    go_quiet (fail)
    go_wp2
    go_quiet (fail)
    go_wp2
    refine bodyPost_ret (v := .tuple #[.agg #[.int .i64 (0), .int .i64 (0), .int .i64 (0)], .int .i64 5, .bool true]) ?_ rfl ⟨rfl, ?_⟩
    · simp [results, Try.results65, go_sem, *]
    · exact (by repeat (first | exact n1.out.below | apply below_alloc | apply pw_below_drewN | refine below_set ?_ (by omega)))

set_option maxHeartbeats 4000000 in
set_option maxRecDepth 100000 in
theorem after_fail3 {g m s : Nat} {c : Cf} {clock : Int} {F : SM} (k wk op cn t dr er draw : Int) (hx : (Lit.int .i64 cn).wf = true) (ho : op = 4) (ha : (F.at_ cn).1 = 3) (hb : (F.at_ cn).2.1 ≥ c.c12) (w : World) (hB : BookIs w g m s c clock F) :
    Calls Try.prog 65 #[.pointer (some ⟨g, 0, none⟩), .agg (evA k wk op cn t dr er), .int .i64 draw] w (AfterPost (0, 0, 0) 5 true w) := by
  have hu := Try.underlying107
  have hu2 := Try.underlying56
  have hu3 := Try.underlying60
  have hu4 := Try.underlying36
  have CS := Aside0.mk (fun W h => state_any (F := F) (g := g) (m := m) (s := s) (c := c) (clock := clock) cn hx W h)
  obtain ⟨a, b, d, hS⟩ : ∃ a b d, F.at_ cn = (a, b, d) := ⟨_, _, _, rfl⟩
  rw [hS] at CS ha hb
  clear hS
  subst ho
  obtain rfl : a = 3 := ha
  have g1 : decide (b ≥ c.c12) = true := decide_eq_true hb
  clear hb
  have hlt := hB.glt
  have hc := fun i => hB.cell i
  have HB := Aside0.mk hB
  clear hB hx
  obtain ⟨x1, x2, hxx⟩ : ∃ x1 x2 : Bool, (decide (cn ≥ 0) = x1) ∧ (decide (cn < c.c7) = x2) ∧ True := ⟨_, _, rfl, rfl, trivial⟩
  obtain ⟨p1, p2, p3⟩ := hxx
  cases x1 <;> cases x2
  all_goals
    go_enter Try.func65, Try.ntmps65
    go_wp2_with (go_at_call 37; (with_reducible refine (CS.out _ ((HB.out.alloc _).alloc _)).mono ?_); rintro e w1 ⟨rfl, hb⟩; have n1 := Aside0.mk ((Held2.start HB.out (evA k wk 4 cn t dr er) (stA (0, 0, 0))).step hb); have hl1 : g < w1.heap.size := n1.out.book.glt; have hl2 : w.heap.size < w1.heap.size := blk_lt n1.out.ev_; have hl3 : w.heap.size + 1 < w1.heap.size := blk_lt n1.out.rs_; clear hb hc; have hc := fun i => n1.out.book.cell i; have he := fun i => blk_cell n1.out.ev_ i; have hr := fun i => blk_cell n1.out.rs_ i; have hf := fun i => blk_frozen_ n1.out.rs_ i)
    go_quiet (fail)
    go_wp2
    go_quiet (fail)
    go_wp2
    refine bodyPost_ret (v := .tuple #[.agg #[.int .i64 (0), .int .i64 (0), .int .i64 (0)], .int .i64 5, .bool true]) ?_ rfl ⟨rfl, ?_⟩
    · simp [results, Try.results65, go_sem, *]
    · exact (by repeat (first | exact n1.out.below | apply below_alloc | apply pw_below_drewN | refine below_set ?_ (by omega)))

set_option maxHeartbeats 4000000 in
set_option maxRecDepth 100000 in
theorem after_none1 {g m s : Nat} {c : Cf} {clock : Int} {F : SM} (k wk op cn t dr er draw : Int) (hx : (Lit.int .i64 cn).wf = true) (ho : op = 1) (ha : ¬ (F.at_ cn).1 = 0) (w : World) (hB : BookIs w g m s c clock F) :
    Calls Try.prog 65 #[.pointer (some ⟨g, 0, none⟩), .agg (evA k wk op cn t dr er), .int .i64 draw] w (AfterPost (F.at_ cn) 0 false w) := by
  have hu := Try.underlying107
  have hu2 := Try.underlying56
  have hu3 := Try.underlying60
  have hu4 := Try.underlying36
  have CS := Aside0.mk (fun W h => state_any (F := F) (g := g) (m := m) (s := s) (c := c) (clock := clock) cn hx W h)
  obtain ⟨a, b, d, hS⟩ : ∃ a b d, F.at_ cn = (a, b, d) := ⟨_, _, _, rfl⟩
  rw [hS] at CS ha ⊢
  clear hS
  subst ho
  have g1 : (a == 0) = false := beq_eq_false_iff_ne.2 ha
  clear ha
  have hlt := hB.glt
  have hc := fun i => hB.cell i
  have HB := Aside0.mk hB
  clear hB hx
  obtain ⟨x1, x2, hxx⟩ : ∃ x1 x2 : Bool, (decide (cn ≥ 0) = x1) ∧ (decide (cn < c.c7) = x2) ∧ True := ⟨_, _, rfl, rfl, trivial⟩
  obtain ⟨p1, p2, p3⟩ := hxx
  cases x1 <;> cases x2
  all_goals
    go_enter Try.func65, Try.ntmps65
    go_wp2_with (go_at_call 37; (with_reducible refine (CS.out _ ((HB.out.alloc _).alloc _)).mono ?_); rintro e w1 ⟨rfl, hb⟩; have n1 := Aside0.mk ((Held2.start HB.out (evA k wk 1 cn t dr er) (stA (0, 0, 0))).step hb); have hl1 : g < w1.heap.size := n1.out.book.glt; have hl2 : w.heap.size < w1.heap.size := blk_lt n1.out.ev_; have hl3 : w.heap.size + 1 < w1.heap.size := blk_lt n1.out.rs_; clear hb hc; have hc := fun i => n1.out.book.cell i; have he := fun i => blk_cell n1.out.ev_ i; have hr := fun i => blk_cell n1.out.rs_ i; have hf := fun i => blk_frozen_ n1.out.rs_ i)
    go_quiet (fail)
    go_wp2
    refine bodyPost_ret (v := .tuple #[.agg #[_, _, _], .int .i64 0, .bool false]) ?_ rfl ⟨rfl, ?_⟩
    · simp [results, Try.results65, go_sem, *]
    · exact (by repeat (first | exact n1.out.below | apply below_alloc | apply pw_below_drewN | refine below_set ?_ (by omega)))

set_option maxHeartbeats 4000000 in
set_option maxRecDepth 100000 in
theorem after_none1b {g m s : Nat} {c : Cf} {clock : Int} {F : SM} (k wk op cn t dr er draw : Int) (hx : (Lit.int .i64 cn).wf = true) (ho : op = 1) (ha : (F.at_ cn).1 = 0) (hin : ¬ (cn ≥ 0 ∧ cn < c.c7)) (w : World) (hB : BookIs w g m s c clock F) :
    Calls Try.prog 65 #[.pointer (some ⟨g, 0, none⟩), .agg (evA k wk op cn t dr er), .int .i64 draw] w (AfterPost (F.at_ cn) 0 false w) := by
  have hu := Try.underlying107
  have hu2 := Try.underlying56
  have hu3 := Try.underlying60
  have hu4 := Try.underlying36
  have CS := Aside0.mk (fun W h => state_any (F := F) (g := g) (m := m) (s := s) (c := c) (clock := clock) cn hx W h)
  obtain ⟨a, b, d, hS⟩ : ∃ a b d, F.at_ cn = (a, b, d) := ⟨_, _, _, rfl⟩
  rw [hS] at CS ha ⊢
  clear hS
  subst ho
  obtain rfl : a = 0 := ha
  have hp : decide (cn ≥ 0) = false ∨ (decide (cn ≥ 0) = true ∧ decide (cn < c.c7) = false) := by
    by_cases q : cn ≥ 0
    · exact .inr ⟨decide_eq_true q, decide_eq_false (fun r => hin ⟨q, r⟩)⟩
    · exact .inl (decide_eq_false q)
  clear hin
  have hlt := hB.glt
  have hc := fun i => hB.cell i
  have HB := Aside0.mk hB
  clear hB hx
  rcases hp with p1 | ⟨p1, p2⟩
  all_goals
    go_enter Try.func65, Try.ntmps65
    go_wp2_with (go_at_call 37; (with_reducible refine (CS.out _ ((HB.out.alloc _).alloc _)).mono ?_); rintro e w1 ⟨rfl, hb⟩; have n1 := Aside0.mk ((Held2.start HB.out (evA k wk 1 cn t dr er) (stA (0, 0, 0))).step hb); have hl1 : g < w1.heap.size := n1.out.book.glt; have hl2 : w.heap.size < w1.heap.size := blk_lt n1.out.ev_; have hl3 : w.heap.size + 1 < w1.heap.size := blk_lt n1.out.rs_; clear hb hc; have hc := fun i => n1.out.book.cell i; have he := fun i => blk_cell n1.out.ev_ i; have hr := fun i => blk_cell n1.out.rs_ i; have hf := fun i => blk_frozen_ n1.out.rs_ i)
    go_quiet (fail)
    go_wp2
    refine bodyPost_ret (v := .tuple #[.agg #[_, _, _], .int .i64 0, .bool false]) ?_ rfl ⟨rfl, ?_⟩
    · simp [results, Try.results65, go_sem, *]
    · exact (by repeat (first | exact n1.out.below | apply below_alloc | apply pw_below_drewN | refine below_set ?_ (by omega)))

set_option maxHeartbeats 4000000 in
set_option maxRecDepth 100000 in
theorem after_none2 {g m s : Nat} {c : Cf} {clock : Int} {F : SM} (k wk op cn t dr er draw : Int) (hx : (Lit.int .i64 cn).wf = true) (ho : op = 2) (ha : ¬ (F.at_ cn).1 = 1) (w : World) (hB : BookIs w g m s c clock F) :
    Calls Try.prog 65 #[.pointer (some ⟨g, 0, none⟩), .agg (evA k wk op cn t dr er), .int .i64 draw] w (AfterPost (F.at_ cn) 0 false w) := by
  have hu := Try.underlying107
  have hu2 := Try.underlying56
  have hu3 := Try.underlying60
  have hu4 := Try.underlying36
  have CS := Aside0.mk (fun W h => state_any (F := F) (g := g) (m := m) (s := s) (c := c) (clock := clock) cn hx W h)
  obtain ⟨a, b, d, hS⟩ : ∃ a b d, F.at_ cn = (a, b, d) := ⟨_, _, _, rfl⟩
  rw [hS] at CS ha ⊢
  clear hS
  subst ho
  have g1 : (a == 1) = false := beq_eq_false_iff_ne.2 ha
  clear ha
  have hlt := hB.glt
  have hc := fun i => hB.cell i
  have HB := Aside0.mk hB
  clear hB hx
  obtain ⟨x1, x2, hxx⟩ : ∃ x1 x2 : Bool, (decide (cn ≥ 0) = x1) ∧ (decide (cn < c.c7) = x2) ∧ True := ⟨_, _, rfl, rfl, trivial⟩
  obtain ⟨p1, p2, p3⟩ := hxx
  cases x1 <;> cases x2
  all_goals
    go_enter Try.func65, Try.ntmps65
    go_wp2_with (go_at_call 37; (with_reducible refine (CS.out _ ((HB.out.alloc _).alloc _)).mono ?_); rintro e w1 ⟨rfl, hb⟩; have n1 := Aside0.mk ((Held2.start HB.out (evA k wk 2 cn t dr er) (stA (0, 0, 0))).step hb); have hl1 : g < w1.heap.size := n1.out.book.glt; have hl2 : w.heap.size < w1.heap.size := blk_lt n1.out.ev_; have hl3 : w.heap.size + 1 < w1.heap.size := blk_lt n1.out.rs_; clear hb hc; have hc := fun i => n1.out.book.cell i; have he := fun i => blk_cell n1.out.ev_ i; have hr := fun i => blk_cell n1.out.rs_ i; have hf := fun i => blk_frozen_ n1.out.rs_ i)
    go_quiet (fail)
    go_wp2
    refine bodyPost_ret (v := .tuple #[.agg #[_, _, _], .int .i64 0, .bool false]) ?_ rfl ⟨rfl, ?_⟩
    · simp [results, Try.results65, go_sem, *]
    · exact (by repeat (first | exact n1.out.below | apply below_alloc | apply pw_below_drewN | refine below_set ?_ (by omega)))

set_option maxHeartbeats 4000000 in
set_option maxRecDepth 100000 in
theorem after_none3 {g m s : Nat} {c : Cf} {clock : Int} {F : SM} (k wk op cn t dr er draw : Int) (hx : (Lit.int .i64 cn).wf = true) (ho : op = 3) (ha : (F.at_ cn).1 = 0) (w : World) (hB : BookIs w g m s c clock F) :
    Calls Try.prog 65 #[.pointer (some ⟨g, 0, none⟩), .agg (evA k wk op cn t dr er), .int .i64 draw] w (AfterPost (F.at_ cn) 0 false w) := by
  have hu := Try.underlying107
  have hu2 := Try.underlying56
  have hu3 := Try.underlying60
  have hu4 := Try.underlying36
  have CS := Aside0.mk (fun W h => state_any (F := F) (g := g) (m := m) (s := s) (c := c) (clock := clock) cn hx W h)
  obtain ⟨a, b, d, hS⟩ : ∃ a b d, F.at_ cn = (a, b, d) := ⟨_, _, _, rfl⟩
  rw [hS] at CS ha ⊢
  clear hS
  subst ho
  obtain rfl : a = 0 := ha
  have hlt := hB.glt
  have hc := fun i => hB.cell i
  have HB := Aside0.mk hB
  clear hB hx
  obtain ⟨x1, x2, hxx⟩ : ∃ x1 x2 : Bool, (decide (cn ≥ 0) = x1) ∧ (decide (cn < c.c7) = x2) ∧ True := ⟨_, _, rfl, rfl, trivial⟩
  obtain ⟨p1, p2, p3⟩ := hxx
  cases x1 <;> cases x2
  all_goals
    go_enter Try.func65, Try.ntmps65
    go_wp2_with (go_at_call 37; (with_reducible refine (CS.out _ ((HB.out.alloc _).alloc _)).mono ?_); rintro e w1 ⟨rfl, hb⟩; have n1 := Aside0.mk ((Held2.start HB.out (evA k wk 3 cn t dr er) (stA (0, 0, 0))).step hb); have hl1 : g < w1.heap.size := n1.out.book.glt; have hl2 : w.heap.size < w1.heap.size := blk_lt n1.out.ev_; have hl3 : w.heap.size + 1 < w1.heap.size := blk_lt n1.out.rs_; clear hb hc; have hc := fun i => n1.out.book.cell i; have he := fun i => blk_cell n1.out.ev_ i; have hr := fun i => blk_cell n1.out.rs_ i; have hf := fun i => blk_frozen_ n1.out.rs_ i)
    go_quiet (fail)
    go_wp2
    refine bodyPost_ret (v := .tuple #[.agg #[_, _, _], .int .i64 0, .bool false]) ?_ rfl ⟨rfl, ?_⟩
    · simp [results, Try.results65, go_sem, *]
    · exact (by repeat (first | exact n1.out.below | apply below_alloc | apply pw_below_drewN | refine below_set ?_ (by omega)))

set_option maxHeartbeats 4000000 in
set_option maxRecDepth 100000 in
theorem after_none5 {g m s : Nat} {c : Cf} {clock : Int} {F : SM} (k wk op cn t dr er draw : Int) (hx : (Lit.int .i64 cn).wf = true) (ho : op = 5) (ha : ¬ (F.at_ cn).1 = 3) (w : World) (hB : BookIs w g m s c clock F) :
    Calls Try.prog 65 #[.pointer (some ⟨g, 0, none⟩), .agg (evA k wk op cn t dr er), .int .i64 draw] w (AfterPost (F.at_ cn) 0 false w) := by
  have hu := Try.underlying107
  have hu2 := Try.underlying56
  have hu3 := Try.underlying60
  have hu4 := Try.underlying36
  have CS := Aside0.mk (fun W h => state_any (F := F) (g := g) (m := m) (s := s) (c := c) (clock := clock) cn hx W h)
  obtain ⟨a, b, d, hS⟩ : ∃ a b d, F.at_ cn = (a, b, d) := ⟨_, _, _, rfl⟩
  rw [hS] at CS ha ⊢
  clear hS
  subst ho
  have g1 : (a == 3) = false := beq_eq_false_iff_ne.2 ha
  clear ha
  have hlt := hB.glt
  have hc := fun i => hB.cell i
  have HB := Aside0.mk hB
  clear hB hx
  obtain ⟨x1, x2, hxx⟩ : ∃ x1 x2 : Bool, (decide (cn ≥ 0) = x1) ∧ (decide (cn < c.c7) = x2) ∧ True := ⟨_, _, rfl, rfl, trivial⟩
  obtain ⟨p1, p2, p3⟩ := hxx
  cases x1 <;> cases x2
  all_goals
    go_enter Try.func65, Try.ntmps65
    go_wp2_with (go_at_call 37; (with_reducible refine (CS.out _ ((HB.out.alloc _).alloc _)).mono ?_); rintro e w1 ⟨rfl, hb⟩; have n1 := Aside0.mk ((Held2.start HB.out (evA k wk 5 cn t dr er) (stA (0, 0, 0))).step hb); have hl1 : g < w1.heap.size := n1.out.book.glt; have hl2 : w.heap.size < w1.heap.size := blk_lt n1.out.ev_; have hl3 : w.heap.size + 1 < w1.heap.size := blk_lt n1.out.rs_; clear hb hc; have hc := fun i => n1.out.book.cell i; have he := fun i => blk_cell n1.out.ev_ i; have hr := fun i => blk_cell n1.out.rs_ i; have hf := fun i => blk_frozen_ n1.out.rs_ i)
    go_quiet (fail)
    go_wp2
    refine bodyPost_ret (v := .tuple #[.agg #[_, _, _], .int .i64 0, .bool false]) ?_ rfl ⟨rfl, ?_⟩
    · simp [results, Try.results65, go_sem, *]
    · exact (by repeat (first | exact n1.out.below | apply below_alloc | apply pw_below_drewN | refine below_set ?_ (by omega)))

set_option maxHeartbeats 4000000 in
set_option maxRecDepth 100000 in
theorem after_none4 {g m s : Nat} {c : Cf} {clock : Int} {F : SM} (k wk op cn t dr er draw : Int) (hx : (Lit.int .i64 cn).wf = true) (ho : op = 4) (ha : ¬ (F.at_ cn).1 = 1 ∧ ¬ (F.at_ cn).1 = 3) (w : World) (hB : BookIs w g m s c clock F) :
    Calls Try.prog 65 #[.pointer (some ⟨g, 0, none⟩), .agg (evA k wk op cn t dr er), .int .i64 draw] w (AfterPost (F.at_ cn) 0 false w) := by
  have hu := Try.underlying107
  have hu2 := Try.underlying56
  have hu3 := Try.underlying60
  have hu4 := Try.underlying36
  have CS := Aside0.mk (fun W h => state_any (F := F) (g := g) (m := m) (s := s) (c := c) (clock := clock) cn hx W h)
  obtain ⟨a, b, d, hS⟩ : ∃ a b d, F.at_ cn = (a, b, d) := ⟨_, _, _, rfl⟩
  rw [hS] at CS ha ⊢
  clear hS
  subst ho
  have g1 : (a == 1) = false := beq_eq_false_iff_ne.2 ha.1
  have g2 : (a == 3) = false := beq_eq_false_iff_ne.2 ha.2
  clear ha
  have hlt := hB.glt
  have hc := fun i => hB.cell i
  have HB := Aside0.mk hB
  clear hB hx
  obtain ⟨x1, x2, hxx⟩ : ∃ x1 x2 : Bool, (decide (cn ≥ 0) = x1) ∧ (decide (cn < c.c7) = x2) ∧ True := ⟨_, _, rfl, rfl, trivial⟩
  obtain ⟨p1, p2, p3⟩ := hxx
  cases x1 <;> cases x2
  all_goals
    go_enter Try.func65, Try.ntmps65
    go_wp2_with (go_at_call 37; (with_reducible refine (CS.out _ ((HB.out.alloc _).alloc _)).mono ?_); rintro e w1 ⟨rfl, hb⟩; have n1 := Aside0.mk ((Held2.start HB.out (evA k wk 4 cn t dr er) (stA (0, 0, 0))).step hb); have hl1 : g < w1.heap.size := n1.out.book.glt; have hl2 : w.heap.size < w1.heap.size := blk_lt n1.out.ev_; have hl3 : w.heap.size + 1 < w1.heap.size := blk_lt n1.out.rs_; clear hb hc; have hc := fun i => n1.out.book.cell i; have he := fun i => blk_cell n1.out.ev_ i; have hr := fun i => blk_cell n1.out.rs_ i; have hf := fun i => blk_frozen_ n1.out.rs_ i)
    go_quiet (fail)
    go_wp2
    refine bodyPost_ret (v := .tuple #[.agg #[_, _, _], .int .i64 0, .bool false]) ?_ rfl ⟨rfl, ?_⟩
    · simp [results, Try.results65, go_sem, *]
    · exact (by repeat (first | exact n1.out.below | apply below_alloc | apply pw_below_drewN | refine below_set ?_ (by omega)))

set_option maxHeartbeats 4000000 in
set_option maxRecDepth 100000 in
theorem after_none {g m s : Nat} {c : Cf} {clock : Int} {F : SM} (k wk op cn t dr er draw : Int) (hx : (Lit.int .i64 cn).wf = true) (ho : ¬ op = 1 ∧ ¬ op = 2 ∧ ¬ op = 3 ∧ ¬ op = 4 ∧ ¬ op = 5) (w : World) (hB : BookIs w g m s c clock F) :
    Calls Try.prog 65 #[.pointer (some ⟨g, 0, none⟩), .agg (evA k wk op cn t dr er), .int .i64 draw] w (AfterPost (F.at_ cn) 0 false w) := by
  have hu := Try.underlying107
  have hu2 := Try.underlying56
  have hu3 := Try.underlying60
  have hu4 := Try.underlying36
  have CS := Aside0.mk (fun W h => state_any (F := F) (g := g) (m := m) (s := s) (c := c) (clock := clock) cn hx W h)
  obtain ⟨a, b, d, hS⟩ : ∃ a b d, F.at_ cn = (a, b, d) := ⟨_, _, _, rfl⟩
  rw [hS] at CS  ⊢
  clear hS
  have g1 : (op == 1) = false := beq_eq_false_iff_ne.2 ho.1
  have g2 : (op == 2) = false := beq_eq_false_iff_ne.2 ho.2.1
  have g3 : (op == 3) = false := beq_eq_false_iff_ne.2 ho.2.2.1
  have g4 : (op == 4) = false := beq_eq_false_iff_ne.2 ho.2.2.2.1
  have g5 : (op == 5) = false := beq_eq_false_iff_ne.2 ho.2.2.2.2
  clear ho
  have hlt := hB.glt
  have hc := fun i => hB.cell i
  have HB := Aside0.mk hB
  clear hB hx
  obtain ⟨x1, x2, hxx⟩ : ∃ x1 x2 : Bool, (decide (cn ≥ 0) = x1) ∧ (decide (cn < c.c7) = x2) ∧ True := ⟨_, _, rfl, rfl, trivial⟩
  obtain ⟨p1, p2, p3⟩ := hxx
  cases x1 <;> cases x2
  all_goals
    go_enter Try.func65, Try.ntmps65
    go_wp2_with (go_at_call 37; (with_reducible refine (CS.out _ ((HB.out.alloc _).alloc _)).mono ?_); rintro e w1 ⟨rfl, hb⟩; have n1 := Aside0.mk ((Held2.start HB.out (evA k wk op cn t dr er) (stA (0, 0, 0))).step hb); have hl1 : g < w1.heap.size := n1.out.book.glt; have hl2 : w.heap.size < w1.heap.size := blk_lt n1.out.ev_; have hl3 : w.heap.size + 1 < w1.heap.size := blk_lt n1.out.rs_; clear hb hc; have hc := fun i => n1.out.book.cell i; have he := fun i => blk_cell n1.out.ev_ i; have hr := fun i => blk_cell n1.out.rs_ i; have hf := fun i => blk_frozen_ n1.out.rs_ i)
    go_quiet (fail)
    go_wp2
    refine bodyPost_ret (v := .tuple #[.agg #[_, _, _], .int .i64 0, .bool false]) ?_ rfl ⟨rfl, ?_⟩
    · simp [results, Try.results65, go_sem, *]
    · exact (by repeat (first | exact n1.out.below | apply below_alloc | apply pw_below_drewN | refine below_set ?_ (by omega)))

end Go.Proofs.Ythljanmfanppdaa.Bk

