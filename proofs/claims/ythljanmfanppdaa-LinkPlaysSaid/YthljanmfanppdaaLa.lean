/- What is proved: knelllaw24.LinkApart returns true; connections' numbers fit into 64 bits. -/
import Derived.Test.YthljanmfanppdaaBr
import Derived.Test.YthljanmfanppdaaKLax1
import Derived.Test.YthljanmfanppdaaKBackx1
namespace Go.Proofs.Ythljanmfanppdaa.Bk
open Go.RowKit Go.Maps Go.Proofs.YthljanmfanppdaaW.PrintWords Go.Proofs.YthljanmfanppdaaW.PrintLast Go.Proofs.YthljanmfanppdaaW.PrintMore Go.Proofs.Ythljanmfanppdaa.Mp Go.Proofs.Ythljanmfanppdaa.KLa
set_option linter.unusedVariables false
set_option linter.unusedSimpArgs false
/-- The book, n events on; nothing of the caller's has changed. -/
structure La (w W : World) (g m n : Nat) (c : Cf) (clk : Int) (F : SM) : Prop where
  below : Below w.heap.size w W
  book : ∃ s, s ≤ n ∧ BookIs W g m s c clk F
  hg : w.heap.size ≤ g
  hm : w.heap.size ≤ m
section
variable {w W W1 : World} {g m n : Nat} {c : Cf} {clk : Int} {F : SM}
theorem La.step (h : La w W g m n c clk F) (hb : Below W.heap.size W W1) : La w W1 g m n c clk F := by
  obtain ⟨s, hs, hB⟩ := h.book
  exact ⟨below_step h.below hb, ⟨s, hs, hB.below hb⟩, h.hg, h.hm⟩
theorem La.alloc (h : La w W g m n c clk F) (o : Obj) : La w (W.alloc o) g m n c clk F := h.step (below_alloc (Below.refl _ _) o)
theorem La.drew (h : La w W g m n c clk F) : La w W.drew g m n c clk F := h.step (Below.drew (Below.refl _ _))
theorem La.glt (h : La w W g m n c clk F) : g < W.heap.size := by obtain ⟨s, hs, hB⟩ := h.book; exact hB.glt
theorem La.mlt (h : La w W g m n c clk F) : m < W.heap.size := by obtain ⟨s, hs, hB⟩ := h.book; exact hB.mlt
theorem La.move (h : La w W g m n c clk F) (hb : Below w.heap.size w W1) (hg : W1.heap[g]? = W.heap[g]?) (hm : W1.heap[m]? = W.heap[m]?) : La w W1 g m n c clk F := by
  obtain ⟨s, hs, hB⟩ := h.book
  exact ⟨hb, ⟨s, hs, hB.move hg hm⟩, h.hg, h.hm⟩
theorem La.put (h : La w W g m n c clk F) {b : Nat} (hb : w.heap.size ≤ b) (hg : b ≠ g) (hm : b ≠ m) (i : Nat) (v : Value) : La w (W.setCell ⟨b, i, none⟩ v) g m n c clk F :=
  h.move (below_set h.below hb) (Below.heap_setCell W _ v g (Ne.symm hg)) (Below.heap_setCell W _ v m (Ne.symm hm))
theorem La.state (h : La w W g m n c clk F) (x : Int) (hx : (Lit.int .i64 x).wf = true) (a b d : Int) (hF : F.at_ x = (a, b, d)) : Calls Try.prog 37 #[.pointer (some ⟨g, 0, none⟩), .int .i64 x] W fun e w' => e = .returned (.agg #[.int .i64 a, .int .i64 b, .int .i64 d]) ∧ Below W.heap.size W w' := by
  obtain ⟨s, hs, hB⟩ := h.book
  refine (state_any x hx W hB).mono ?_
  rintro e w' ⟨he, hb⟩
  exact ⟨by rw [he, hF], hb⟩
theorem La.doing (h : La w W g m n c clk F) (hn : n < 1000000) (k wk op cn t dr er draw : Int) (hx : (Lit.int .i64 cn).wf = true) : Calls Try.prog 38 #[.pointer (some ⟨g, 0, none⟩), .agg #[.int .i64 k, .int .i64 wk, .int .i64 op, .int .i64 cn, .int .i64 t, .int .i64 dr, .int .i64 er], .int .i64 draw] W fun e w' => e = .returned (.int .i64 (doF c clk F k wk op cn t dr er draw).1) ∧ La w w' g m (n + 1) c (doF c clk F k wk op cn t dr er draw).2.1 (doF c clk F k wk op cn t dr er draw).2.2 ∧ Chg W w' g m := by
  obtain ⟨s, hs, hB⟩ := h.book
  refine (do_any k wk op cn t dr er draw hx (by omega) W hB).mono ?_
  rintro e w' ⟨he, s', hs', hB', hch⟩
  exact ⟨he, ⟨hch.below h.below h.below.size h.hg h.hm, ⟨s', by omega, hB'⟩, h.hg, h.hm⟩, hch⟩
end
/-- The configuration of the law's. -/
theorem of_calls (c : Cf) (W : World) : Calls Try.prog 23 #[.agg c.cells] W fun e w' => e = .returned (.agg c.cells) ∧ Below W.heap.size W w' :=
  knelllaw03_Of.calls _ _ _ _ _ _ _ _ _ _ _ _ _ _ _ _ _ _ _ _ _ _ _ _ _ _ W rfl
theorem cright_calls (c : Cf) (W : World) : Calls Try.prog 22 #[.agg c.cells] W fun e w' => e = .returned (.bool (cfCode c == 0)) ∧ Below W.heap.size W w' :=
  KBack.knellref03_Right.calls _ _ _ _ _ _ _ _ _ _ _ _ _ _ W (PureLk.right_is _ _ _ _ _ _ _ _ _ _ _ _ _)
theorem eof_calls (k wk op cn t dr er : Int) (W : World) : Calls Try.prog 39 #[.agg #[.int .i64 k, .int .i64 wk, .int .i64 op, .int .i64 cn, .int .i64 t, .int .i64 dr, .int .i64 er]] W fun e w' => e = .returned (.agg #[.int .i64 k, .int .i64 wk, .int .i64 op, .int .i64 cn, .int .i64 t, .int .i64 dr, .int .i64 er]) ∧ Below W.heap.size W w' :=
  knelllaw24_Of.calls _ _ _ _ _ _ _ _ _ _ _ _ _ _ W rfl
end Go.Proofs.Ythljanmfanppdaa.Bk
