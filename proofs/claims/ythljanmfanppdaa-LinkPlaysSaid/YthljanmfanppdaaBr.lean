/- What is proved: knelllaw24's example speaks; no conditions. -/
import Derived.Test.YthljanmfanppdaaBq
import Derived.Deep.LoopGhost
namespace Go.Proofs.Ythljanmfanppdaa.Bk
open Go.RowKit Go.Maps Go.Proofs.YthljanmfanppdaaW.PrintWords Go.Proofs.YthljanmfanppdaaW.PrintLast Go.Proofs.YthljanmfanppdaaW.PrintMore Go.Proofs.Ythljanmfanppdaa.Mp
set_option linter.unusedVariables false
set_option linter.unusedSimpArgs false
/-- The example's configuration, events, answers. -/
def spC : Cf := ⟨1, 1, 1, 1, 1, 0, 0, 1, 2, 1, 1, 0, 0⟩
structure Ev7 where
  k : Int
  wk : Int
  op : Int
  cn : Int
  t : Int
  dr : Int
  er : Int
abbrev Ev7.cells (e : Ev7) : Array Value := evA e.k e.wk e.op e.cn e.t e.dr e.er
def doE (c : Cf) (s : Int × SM) (e : Ev7) (draw : Int) : Int × Int × SM := doF c s.1 s.2 e.k e.wk e.op e.cn e.t e.dr e.er draw
def spE : Nat → Ev7
  | 0 => ⟨3, 0, 1, 0, 0, 0, 0⟩
  | 1 => ⟨1, 0, 0, 0, 1, 0, 0⟩
  | 2 => ⟨4, 0, 7, 0, 1, 0, 0⟩
  | 3 => ⟨4, 0, 7, 0, 2, 0, 0⟩
  | 4 => ⟨1, 0, 0, 0, 2, 0, 0⟩
  | 5 => ⟨4, 0, 7, 0, 1, 0, 0⟩
  | _ => ⟨4, 0, 7, 0, 2, 0, 0⟩
def spS : Nat → Int × SM
  | 0 => (0, fun _ => none)
  | n + 1 => (doE spC (spS n) (spE n) 0).2
def spW (n : Nat) : Int := if n = 2 ∨ n = 3 ∨ n = 5 then 6 else 0
theorem sp_code : ∀ n, n < 7 → (doE spC (spS n) (spE n) 0).1 = spW n := by decide +kernel
theorem sp_end : (spS 7).2.at_ 0 = (0, 0, 0) := by decide +kernel
theorem sp_cf : cfCode spC = 0 := by decide +kernel
abbrev spA : Array Value := #[.int .i64 3, .int .i64 0, .int .i64 1, .int .i64 0, .int .i64 0, .int .i64 0, .int .i64 0, .int .i64 1, .int .i64 0, .int .i64 0, .int .i64 0, .int .i64 1, .int .i64 0, .int .i64 0, .int .i64 4, .int .i64 0, .int .i64 7, .int .i64 0, .int .i64 1, .int .i64 0, .int .i64 0, .int .i64 4, .int .i64 0, .int .i64 7, .int .i64 0, .int .i64 2, .int .i64 0, .int .i64 0, .int .i64 1, .int .i64 0, .int .i64 0, .int .i64 0, .int .i64 2, .int .i64 0, .int .i64 0, .int .i64 4, .int .i64 0, .int .i64 7, .int .i64 0, .int .i64 1, .int .i64 0, .int .i64 0, .int .i64 4, .int .i64 0, .int .i64 7, .int .i64 0, .int .i64 2, .int .i64 0, .int .i64 0]
/-- The book and the list of events, n events on. -/
structure Sp (w W : World) (g m sb n : Nat) : Prop where
  below : Below w.heap.size w W
  book : ∃ s, s ≤ n ∧ BookIs W g m s spC (spS n).1 (spS n).2
  lst : W.heap[sb]? = some (.cells spA 60 (0, 0))
  hg : w.heap.size ≤ g
  hm : w.heap.size ≤ m
  hsg : sb ≠ g
  hsm : sb ≠ m
theorem Sp.cell {w W : World} {g m sb n : Nat} (h : Sp w W g m sb n) (i : Nat) : W.cell? ⟨sb, i, none⟩ = spA[i]? := blk_cell h.lst i
theorem Sp.step {w W W1 : World} {g m sb n : Nat} (h : Sp w W g m sb n) (hb : Below W.heap.size W W1) : Sp w W1 g m sb n := by
  obtain ⟨s, hs, hB⟩ := h.book
  exact ⟨below_step h.below hb, ⟨s, hs, hB.below hb⟩, (hb.block _ (blk_lt h.lst)).trans h.lst, h.hg, h.hm, h.hsg, h.hsm⟩
/-- One event on. -/
theorem sp_do {w W : World} {g m sb n : Nat} (h : Sp w W g m sb n) (hn : n < 7) : Calls Try.prog 38 #[.pointer (some ⟨g, 0, none⟩), .agg (spE n).cells, .int .i64 0] W fun e w' => e = .returned (.int .i64 (spW n)) ∧ Sp w w' g m sb (n + 1) := by
  obtain ⟨s, hs, hB⟩ := h.book
  have hx : (Lit.int .i64 (spE n).cn).wf = true := by
    have : ∀ n, n < 7 → (Lit.int .i64 (spE n).cn).wf = true := by decide +kernel
    exact this n hn
  refine (do_any (spE n).k (spE n).wk (spE n).op (spE n).cn (spE n).t (spE n).dr (spE n).er 0 hx (by omega) W hB).mono ?_
  rintro e w' ⟨he, s', hs', hB', hch⟩
  have hc := sp_code n hn
  refine ⟨he.trans (by rw [← hc]; rfl), ⟨hch.below h.below h.below.size h.hg h.hm, ⟨s', by omega, hB'⟩, (hch.block _ (blk_lt h.lst) h.hsg h.hsm).trans h.lst, h.hg, h.hm, h.hsg, h.hsm⟩⟩
theorem sp_state {w W : World} {g m sb : Nat} (h : Sp w W g m sb 7) : Calls Try.prog 37 #[.pointer (some ⟨g, 0, none⟩), .int .i64 0] W fun e w' => e = .returned (stV (0, 0, 0)) ∧ Below w.heap.size w w' := by
  obtain ⟨s, hs, hB⟩ := h.book
  refine (state_any 0 (by decide) W hB).mono ?_
  rintro e w' ⟨he, hb⟩
  exact ⟨by rw [he, sp_end], below_step h.below hb⟩
set_option maxHeartbeats 4000000 in
set_option maxRecDepth 100000 in
theorem speaks_any (w : World) : Calls Try.prog 35 #[] w fun e w' => e = .returned (.bool true) ∧ Below w.heap.size w w' := by
  have hu2 := Try.underlying56
  have hu3 := Try.underlying60
  have CN : Aside0 (∀ W, Calls Try.prog 36 #[.agg #[.int .i64 1, .int .i64 1, .int .i64 1, .int .i64 1, .int .i64 1, .int .i64 0, .int .i64 0, .int .i64 1, .int .i64 2, .int .i64 1, .int .i64 1, .int .i64 0, .int .i64 0]] W (NewPost spC 0 W)) := ⟨fun W => sp_cf ▸ new_is spC W⟩
  go_enter Try.func35, Try.ntmps35
  go_wp2_with (go_at_call 36; (with_reducible refine (CN.out _).mono ?_); rintro e w1 (⟨h0, _⟩ | ⟨_, g, m, rfl, hg, hm, hB, hb⟩); (exact absurd rfl h0); have n1 := Aside0.mk hB; have n2 := Aside0.mk hb; have n3 := Aside0.mk (And.intro hg hm); clear hg hm hB hb)
  obtain ⟨sb, hsb⟩ : ∃ sb, sb = w1.heap.size + 1 + 1 := ⟨_, rfl⟩
  have HS : Aside0 (Sp w (((w1.alloc (.cells (evA 4 0 7 0 1 0 0) 60)).alloc (.cells (evA 4 0 7 0 2 0 0) 60)).alloc (.cells spA 60)) g m sb 0) :=
    ⟨⟨below_alloc (below_alloc (below_alloc n2.out _) _) _, ⟨0, Nat.le_refl _, ((n1.out.alloc _).alloc _).alloc _⟩, by rw [hsb]; simpa using heap_alloc_new ((w1.alloc (.cells (evA 4 0 7 0 1 0 0) 60)).alloc (.cells (evA 4 0 7 0 2 0 0) 60)) (.cells spA 60), n3.out.1, n3.out.2, by have := n1.out.glt; omega, by have := n1.out.mlt; omega⟩⟩
  rw [← hsb]
  clear hsb
  go_loopw [30] (fun i wr => ∃ n : Nat, n ≤ 7 ∧ i = .int .i64 n ∧ Aside0 (Sp w wr g m sb n)) (fun i _ => 7 - (intOf i).toNat)
  case atStart => exact ⟨0, by omega, rfl, HS⟩
  case round =>
    clear HS
    obtain ⟨n, hn, rfl, HS⟩ := hrel
    obtain rfl | rfl | rfl | rfl | rfl | rfl | rfl | rfl : n = 0 ∨ n = 1 ∨ n = 2 ∨ n = 3 ∨ n = 4 ∨ n = 5 ∨ n = 6 ∨ n = 7 := by omega
    · have hc := fun i => HS.out.cell i
      have CD : Aside0 (∀ W, Sp w W g m sb 0 → Calls Try.prog 38 #[.pointer (some ⟨g, 0, none⟩), .agg #[.int .i64 3, .int .i64 0, .int .i64 1, .int .i64 0, .int .i64 0, .int .i64 0, .int .i64 0], .int .i64 0] W fun e w' => e = .returned (.int .i64 0) ∧ Sp w w' g m sb 1) := ⟨fun W h => sp_do h (by decide)⟩
      have hl := blk_lt HS.out.lst
      go_wp2_with (go_at_call 38; (with_reducible refine (CD.out _ (HS.out.step (below_alloc (Below.refl _ _) _))).mono ?_); rintro e w2 ⟨rfl, hS2⟩; have HS2 := Aside0.mk hS2; clear hS2)
      go_roundw
      case rel => exact ⟨1, by omega, rfl, HS2⟩
      case measure => simp [intOf]
    · have hc := fun i => HS.out.cell i
      have CD : Aside0 (∀ W, Sp w W g m sb 1 → Calls Try.prog 38 #[.pointer (some ⟨g, 0, none⟩), .agg #[.int .i64 1, .int .i64 0, .int .i64 0, .int .i64 0, .int .i64 1, .int .i64 0, .int .i64 0], .int .i64 0] W fun e w' => e = .returned (.int .i64 0) ∧ Sp w w' g m sb 2) := ⟨fun W h => sp_do h (by decide)⟩
      have hl := blk_lt HS.out.lst
      go_wp2_with (go_at_call 38; (with_reducible refine (CD.out _ (HS.out.step (below_alloc (Below.refl _ _) _))).mono ?_); rintro e w2 ⟨rfl, hS2⟩; have HS2 := Aside0.mk hS2; clear hS2)
      go_roundw
      case rel => exact ⟨2, by omega, rfl, HS2⟩
      case measure => simp [intOf]
    · have hc := fun i => HS.out.cell i
      have CD : Aside0 (∀ W, Sp w W g m sb 2 → Calls Try.prog 38 #[.pointer (some ⟨g, 0, none⟩), .agg #[.int .i64 4, .int .i64 0, .int .i64 7, .int .i64 0, .int .i64 1, .int .i64 0, .int .i64 0], .int .i64 0] W fun e w' => e = .returned (.int .i64 6) ∧ Sp w w' g m sb 3) := ⟨fun W h => sp_do h (by decide)⟩
      have hl := blk_lt HS.out.lst
      go_wp2_with (go_at_call 38; (with_reducible refine (CD.out _ (HS.out.step (below_alloc (Below.refl _ _) _))).mono ?_); rintro e w2 ⟨rfl, hS2⟩; have HS2 := Aside0.mk hS2; clear hS2)
      go_roundw
      case rel => exact ⟨3, by omega, rfl, HS2⟩
      case measure => simp [intOf]
    · have hc := fun i => HS.out.cell i
      have CD : Aside0 (∀ W, Sp w W g m sb 3 → Calls Try.prog 38 #[.pointer (some ⟨g, 0, none⟩), .agg #[.int .i64 4, .int .i64 0, .int .i64 7, .int .i64 0, .int .i64 2, .int .i64 0, .int .i64 0], .int .i64 0] W fun e w' => e = .returned (.int .i64 6) ∧ Sp w w' g m sb 4) := ⟨fun W h => sp_do h (by decide)⟩
      have hl := blk_lt HS.out.lst
      go_wp2_with (go_at_call 38; (with_reducible refine (CD.out _ (HS.out.step (below_alloc (Below.refl _ _) _))).mono ?_); rintro e w2 ⟨rfl, hS2⟩; have HS2 := Aside0.mk hS2; clear hS2)
      go_roundw
      case rel => exact ⟨4, by omega, rfl, HS2⟩
      case measure => simp [intOf]
    · have hc := fun i => HS.out.cell i
      have CD : Aside0 (∀ W, Sp w W g m sb 4 → Calls Try.prog 38 #[.pointer (some ⟨g, 0, none⟩), .agg #[.int .i64 1, .int .i64 0, .int .i64 0, .int .i64 0, .int .i64 2, .int .i64 0, .int .i64 0], .int .i64 0] W fun e w' => e = .returned (.int .i64 0) ∧ Sp w w' g m sb 5) := ⟨fun W h => sp_do h (by decide)⟩
      have hl := blk_lt HS.out.lst
      go_wp2_with (go_at_call 38; (with_reducible refine (CD.out _ (HS.out.step (below_alloc (Below.refl _ _) _))).mono ?_); rintro e w2 ⟨rfl, hS2⟩; have HS2 := Aside0.mk hS2; clear hS2)
      go_roundw
      case rel => exact ⟨5, by omega, rfl, HS2⟩
      case measure => simp [intOf]
    · have hc := fun i => HS.out.cell i
      have CD : Aside0 (∀ W, Sp w W g m sb 5 → Calls Try.prog 38 #[.pointer (some ⟨g, 0, none⟩), .agg #[.int .i64 4, .int .i64 0, .int .i64 7, .int .i64 0, .int .i64 1, .int .i64 0, .int .i64 0], .int .i64 0] W fun e w' => e = .returned (.int .i64 6) ∧ Sp w w' g m sb 6) := ⟨fun W h => sp_do h (by decide)⟩
      have hl := blk_lt HS.out.lst
      go_wp2_with (go_at_call 38; (with_reducible refine (CD.out _ (HS.out.step (below_alloc (Below.refl _ _) _))).mono ?_); rintro e w2 ⟨rfl, hS2⟩; have HS2 := Aside0.mk hS2; clear hS2)
      go_roundw
      case rel => exact ⟨6, by omega, rfl, HS2⟩
      case measure => simp [intOf]
    · have hc := fun i => HS.out.cell i
      have CD : Aside0 (∀ W, Sp w W g m sb 6 → Calls Try.prog 38 #[.pointer (some ⟨g, 0, none⟩), .agg #[.int .i64 4, .int .i64 0, .int .i64 7, .int .i64 0, .int .i64 2, .int .i64 0, .int .i64 0], .int .i64 0] W fun e w' => e = .returned (.int .i64 0) ∧ Sp w w' g m sb 7) := ⟨fun W h => sp_do h (by decide)⟩
      have hl := blk_lt HS.out.lst
      go_wp2_with (go_at_call 38; (with_reducible refine (CD.out _ (HS.out.step (below_alloc (Below.refl _ _) _))).mono ?_); rintro e w2 ⟨rfl, hS2⟩; have HS2 := Aside0.mk hS2; clear hS2)
      go_roundw
      case rel => exact ⟨7, by omega, rfl, HS2⟩
      case measure => simp [intOf]
    · have CS : Aside0 (∀ W, Sp w W g m sb 7 → Calls Try.prog 37 #[.pointer (some ⟨g, 0, none⟩), .int .i64 0] W fun e w' => e = .returned (.agg #[.int .i64 0, .int .i64 0, .int .i64 0]) ∧ Below w.heap.size w w') := ⟨fun W h => sp_state h⟩
      go_wp2_with (go_at_call 37; (with_reducible refine (CS.out _ HS.out).mono ?_); rintro e w2 ⟨rfl, hb⟩)
      go_ret
      exact ⟨rfl, hb⟩
end Go.Proofs.Ythljanmfanppdaa.Bk
