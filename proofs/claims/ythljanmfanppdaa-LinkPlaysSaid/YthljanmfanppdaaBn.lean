/- What is proved: what (*Book).after tells: the state behind an operation, its answer, and whether it can be; connections' numbers and times fit into 64 bits. -/
import Derived.Test.YthljanmfanppdaaBm
namespace Go.Proofs.Ythljanmfanppdaa.Bk
open Go.RowKit Go.Maps Go.Proofs.YthljanmfanppdaaW.PrintWords Go.Proofs.YthljanmfanppdaaW.PrintLast Go.Proofs.YthljanmfanppdaaW.PrintMore Go.Proofs.Ythljanmfanppdaa.Mp
set_option linter.unusedVariables false
set_option linter.unusedSimpArgs false

set_option maxHeartbeats 4000000 in
set_option maxRecDepth 100000 in
theorem after_wait1 {g m s : Nat} {c : Cf} {clock : Int} {F : SM} (k wk op cn t dr er draw : Int) (hx : (Lit.int .i64 cn).wf = true) (due : Int) (ho : op = 4) (ha : (F.at_ cn).1 = 1) (hb : ¬ (F.at_ cn).2.1 ≥ c.c12) (cd : ∀ W, Calls Try.prog 29 #[.agg c.cells, .int .i64 t, .int .i64 (F.at_ cn).2.1, .int .i64 draw] W fun e w' => e = .returned (.int .i64 due) ∧ Below W.heap.size W w') (w : World) (hB : BookIs w g m s c clock F) :
    Calls Try.prog 65 #[.pointer (some ⟨g, 0, none⟩), .agg (evA k wk op cn t dr er), .int .i64 draw] w (AfterPost (2, IntKind.i64.wrap ((F.at_ cn).2.1 + 1), due) 0 true w) := by
  have hu := Try.underlying107
  have hu2 := Try.underlying56
  have hu3 := Try.underlying60
  have hu4 := Try.underlying36
  have CS := Aside0.mk (fun W h => state_any (F := F) (g := g) (m := m) (s := s) (c := c) (clock := clock) cn hx W h)
  have CD := Aside0.mk cd
  clear cd
  obtain ⟨a, b, d, hS⟩ : ∃ a b d, F.at_ cn = (a, b, d) := ⟨_, _, _, rfl⟩
  rw [hS] at CS CD ha hb ⊢
  clear hS
  subst ho
  obtain rfl : a = 1 := ha
  have g1 : decide (b ≥ c.c12) = false := decide_eq_false hb
  clear hb
  have hlt := hB.glt
  have hc := fun i => hB.cell i
  have HB := Aside0.mk hB
  clear hB hx
  obtain ⟨x1, x2, hxx⟩ : ∃ x1 x2 : Bool, (decide (cn ≥ 0) = x1) ∧ (decide (cn < c.c7) = x2) ∧ True := ⟨_, _, rfl, rfl, trivial⟩
  obtain ⟨p1, p2, p3⟩ := hxx
  cases x1 <;> cases x2
  all_goals
    go_enter Try.func65, Try.ntmps65
    go_wp2_with (go_at_call 37; (with_reducible refine (CS.out _ ((HB.out.alloc _).alloc _)).mono ?_); rintro e w1 ⟨rfl, hb⟩; have n1 := Aside0.mk ((Held2.start HB.out (evA k wk 4 cn t dr er) (stA (0, 0, 0))).step hb); have hl1 : g < w1.heap.size := n1.out.book.glt; have hl2 : w.heap.size < w1.heap.size := blk_lt n1.out.ev_; have hl3 : w.heap.size + 1 < w1.heap.size := blk_lt n1.out.rs_; clear hb hc; have hc := fun i => n1.out.book.cell i; have he := fun i => blk_cell n1.out.ev_ i; have hr := fun i => blk_cell n1.out.rs_ i; have hf := fun i => blk_frozen_ n1.out.rs_ i)
    go_quiet (fail)
    have HT := Aside0.mk (Held3.mk (Held2.step n1.out (below_alloc (Below.refl _ _) (.cells (stA (1, b, d)) 56))) (heap_alloc_new w1 (.cells (stA (1, b, d)) 56)))
    go_wp2
    go_quiet (fail)
    go_wp2
    clear hc he hr hf
    go_region_held3 (fun w' => (∀ i, w'.cell? ⟨g, i, none⟩ = (bkA c clock m)[i]?) ∧ (∀ i, w'.cell? ⟨w.heap.size, i, none⟩ = (evA k wk 4 cn t dr er)[i]?) ∧ (∀ i, w'.cell? ⟨w1.heap.size, i, none⟩ = (stA (1, b, d))[i]?)) (first | exact HT.out.cells | exact HT.out.cells_put (by omega) (by omega) _ _ _) ((go_at_call 29; (with_reducible refine (CD.out _).mono ?_); rintro e w2 ⟨rfl, hb⟩; have n9 := Aside0.mk (show Held3 w w2 g m s c clock F (evA k wk 4 cn t dr er) (stA (0, 0, 0)) w1.heap.size (stA (1, b, d)) from (by first | exact ((HT.out.drewN _).drew).step hb | exact HT.out.drew.step hb | exact HT.out.step hb)); clear HT hb; have HT := n9; clear n9; have hr := fun i => blk_cell HT.out.two.rs_ i; have hf := fun i => blk_frozen HT.out.two.rs_ i))
    all_goals
      go_wp2
      refine bodyPost_ret (v := .tuple #[.agg #[_, _, _], .int .i64 0, .bool true]) ?_ rfl ⟨rfl, ?_⟩
      · simp [results, Try.results65, go_sem, *]
      · exact below_set (below_set (below_set HT.out.two.below (by omega)) (by omega)) (by omega)

set_option maxHeartbeats 4000000 in
set_option maxRecDepth 100000 in
theorem after_wait3 {g m s : Nat} {c : Cf} {clock : Int} {F : SM} (k wk op cn t dr er draw : Int) (hx : (Lit.int .i64 cn).wf = true) (due : Int) (ho : op = 4) (ha : (F.at_ cn).1 = 3) (hb : ¬ (F.at_ cn).2.1 ≥ c.c12) (cd : ∀ W, Calls Try.prog 29 #[.agg c.cells, .int .i64 t, .int .i64 (F.at_ cn).2.1, .int .i64 draw] W fun e w' => e = .returned (.int .i64 due) ∧ Below W.heap.size W w') (w : World) (hB : BookIs w g m s c clock F) :
    Calls Try.prog 65 #[.pointer (some ⟨g, 0, none⟩), .agg (evA k wk op cn t dr er), .int .i64 draw] w (AfterPost (2, IntKind.i64.wrap ((F.at_ cn).2.1 + 1), due) 0 true w) := by
  have hu := Try.underlying107
  have hu2 := Try.underlying56
  have hu3 := Try.underlying60
  have hu4 := Try.underlying36
  have CS := Aside0.mk (fun W h => state_any (F := F) (g := g) (m := m) (s := s) (c := c) (clock := clock) cn hx W h)
  have CD := Aside0.mk cd
  clear cd
  obtain ⟨a, b, d, hS⟩ : ∃ a b d, F.at_ cn = (a, b, d) := ⟨_, _, _, rfl⟩
  rw [hS] at CS CD ha hb ⊢
  clear hS
  subst ho
  obtain rfl : a = 3 := ha
  have g1 : decide (b ≥ c.c12) = false := decide_eq_false hb
  clear hb
  have hlt := hB.glt
  have hc := fun i => hB.cell i
  have HB := Aside0.mk hB
  clear hB hx
  obtain ⟨x1, x2, hxx⟩ : ∃ x1 x2 : Bool, (decide (cn ≥ 0) = x1) ∧ (decide (cn < c.c7) = x2) ∧ True := ⟨_, _, rfl, rfl, trivial⟩
  obtain ⟨p1, p2, p3⟩ := hxx
  cases x1 <;> cases x2
  all_goals
    go_enter Try.func65, Try.ntmps65
    go_wp2_with (go_at_call 37; (with_reducible refine (CS.out _ ((HB.out.alloc _).alloc _)).mono ?_); rintro e w1 ⟨rfl, hb⟩; have n1 := Aside0.mk ((Held2.start HB.out (evA k wk 4 cn t dr er) (stA (0, 0, 0))).step hb); have hl1 : g < w1.heap.size := n1.out.book.glt; have hl2 : w.heap.size < w1.heap.size := blk_lt n1.out.ev_; have hl3 : w.heap.size + 1 < w1.heap.size := blk_lt n1.out.rs_; clear hb hc; have hc := fun i => n1.out.book.cell i; have he := fun i => blk_cell n1.out.ev_ i; have hr := fun i => blk_cell n1.out.rs_ i; have hf := fun i => blk_frozen_ n1.out.rs_ i)
    go_quiet (fail)
    have HT := Aside0.mk (Held3.mk (Held2.step n1.out (below_alloc (Below.refl _ _) (.cells (stA (3, b, d)) 56))) (heap_alloc_new w1 (.cells (stA (3, b, d)) 56)))
    go_wp2
    go_quiet (fail)
    go_wp2
    clear hc he hr hf
    go_region_held3 (fun w' => (∀ i, w'.cell? ⟨g, i, none⟩ = (bkA c clock m)[i]?) ∧ (∀ i, w'.cell? ⟨w.heap.size, i, none⟩ = (evA k wk 4 cn t dr er)[i]?) ∧ (∀ i, w'.cell? ⟨w1.heap.size, i, none⟩ = (stA (3, b, d))[i]?)) (first | exact HT.out.cells | exact HT.out.cells_put (by omega) (by omega) _ _ _) ((go_at_call 29; (with_reducible refine (CD.out _).mono ?_); rintro e w2 ⟨rfl, hb⟩; have n9 := Aside0.mk (show Held3 w w2 g m s c clock F (evA k wk 4 cn t dr er) (stA (0, 0, 0)) w1.heap.size (stA (3, b, d)) from (by first | exact ((HT.out.drewN _).drew).step hb | exact HT.out.drew.step hb | exact HT.out.step hb)); clear HT hb; have HT := n9; clear n9; have hr := fun i => blk_cell HT.out.two.rs_ i; have hf := fun i => blk_frozen HT.out.two.rs_ i))
    all_goals
      go_wp2
      refine bodyPost_ret (v := .tuple #[.agg #[_, _, _], .int .i64 0, .bool true]) ?_ rfl ⟨rfl, ?_⟩
      · simp [results, Try.results65, go_sem, *]
      · exact below_set (below_set (below_set HT.out.two.below (by omega)) (by omega)) (by omega)

end Go.Proofs.Ythljanmfanppdaa.Bk

