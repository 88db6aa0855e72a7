/- What is proved: what knellref24.Do and knellref24.New do, at all events and configurations; the words of LinkPlays' walk. -/
import Derived.Test.YthljanmfanppdaaPt
import Derived.Test.YthljanmfanppdaaLa
set_option linter.unusedVariables false
set_option linter.unusedSimpArgs false
namespace Go.Proofs.Ythljanmfanppdaa.Bk
open Go.RowKit Go.Maps Go.Proofs.YthljanmfanppdaaW.PrintWords Go.Proofs.YthljanmfanppdaaW.PrintLast Go.Proofs.YthljanmfanppdaaW.PrintMore Go.Proofs.Ythljanmfanppdaa.KRf
theorem rdo_any {c : Cf} {F : SM} {L : List S71} (h : Tie c F L) (hl : L.length ≤ 1000000) (A : Option Addr) (cap : Nat) (hc : L.length ≤ cap) (clk k wk op cn t dr er draw : Int) :
    ∃ L', Tie c (doF c clk F k wk op cn t dr er draw).2.2 L' ∧ L'.length = L.length ∧ ∀ (w : World), Kd.C k71 w A L.length L → Calls Try.prog 41 #[.agg (rbA c clk (.slice A L.length cap)), .agg (evA k wk op cn t dr er), .int .i64 draw] w (PtPost c (doF c clk F k wk op cn t dr er draw).2.1 A cap L L' (doF c clk F k wk op cn t dr er draw).1 w) := by
  obtain ⟨a, b, d, hF⟩ : ∃ a b d, F.at_ cn = (a, b, d) := ⟨_, _, _, rfl⟩
  have hout : a ≠ 0 → 0 ≤ cn ∧ cn < (L.length : Int) := fun ha => by
    refine Classical.byContradiction fun hn => ?_
    have := h.at_ cn
    rw [hF, if_neg hn] at this
    exact ha (congrArg Prod.fst this)
  unfold doF
  cases hv : lrB k wk op cn t dr er with
  | false =>
    rw [if_pos rfl]
    exact ⟨L, h, rfl, rdo_form h hl A cap hc clk k wk op cn t dr er draw a b d hF false hv rfl⟩
  | true =>
    rw [if_neg (by decide)]
    by_cases k1 : k = 1
    · rw [if_pos k1]
      by_cases ht : t = wrap64 (clk + 1)
      · rw [if_pos ht]
        exact ⟨L, h, rfl, rdo_tick h hl A cap hc clk k wk op cn t dr er draw a b d hF true hv rfl k1 ht⟩
      · rw [if_neg ht]
        exact ⟨L, h, rfl, rdo_tick_no h hl A cap hc clk k wk op cn t dr er draw a b d hF true hv rfl k1 ht⟩
    rw [if_neg k1]
    by_cases k4 : k = 4
    · rw [if_pos k4]
      unfold actF
      by_cases ht : t > clk
      · rw [if_pos ht]
        exact ⟨L, h, rfl, rdo_late h hl A cap hc clk k wk op cn t dr er draw a b d hF true hv rfl k4 ht⟩
      rw [if_neg ht, hF]
      simp only
      by_cases o7 : op = 7
      · rw [if_neg (fun q : op = 8 ∧ _ => by omega)]
        by_cases ha : a = 1
        · have hx := rdo_seven1 h hl A cap hc clk k wk op cn t dr er draw a b d hF true hv rfl k4 ht o7 ha hout
          by_cases hi : idleI c d ≤ t
          · rw [if_pos ⟨o7, ha, hi⟩]
            have hin := hout (by omega)
            exact ⟨L.set cn.toNat ⟨0, 0, 0⟩, h.set cn 0 0 0 hin.1 hin.2 (by simp), by simp, fun w hr => by have := hx w hr; rw [if_pos hi] at this; exact this⟩
          · rw [if_neg (fun q => hi q.2.2)]
            exact ⟨L, h, rfl, fun w hr => by have := hx w hr; rw [if_neg hi] at this; exact this⟩
        · rw [if_neg (fun q => ha q.2.1)]
          exact ⟨L, h, rfl, rdo_seven h hl A cap hc clk k wk op cn t dr er draw a b d hF true hv rfl k4 ht o7 ha⟩
      rw [if_neg (fun q => o7 q.1)]
      have hx := rdo_eight h hl A cap hc clk k wk op cn t dr er draw a b d hF true hv rfl k4 ht o7 hout
      by_cases hq : op = 8 ∧ a = 2 ∧ d ≤ t
      · rw [if_pos hq]
        have hin := hout (by omega)
        exact ⟨L.set cn.toNat ⟨3, b, t⟩, h.set cn 3 b t hin.1 hin.2 (by simp), by simp, fun w hr => by have := hx w hr; rw [if_pos hq] at this; exact this⟩
      · rw [if_neg hq]
        exact ⟨L, h, rfl, fun w hr => by have := hx w hr; rw [if_neg hq] at this; exact this⟩
    rw [if_neg k4]
    by_cases k3 : k = 3
    · rw [if_pos k3]
      obtain ⟨L2, hT, hlen, hp⟩ := point_any h hl A cap hc clk k wk op cn t dr er draw
      unfold pointF at hT hp
      have hq : (if er = 1 ∨ er = 3 ∨ er = 6 ∧ (afterF c F op cn t draw).2.2 = false then ((0 : Int), clk, F) else if (afterF c F op cn t draw).2.2 = true ∧ er = (afterF c F op cn t draw).2.1 then (0, clk, F.put cn (afterF c F op cn t draw).1) else (6, clk, F)) = ((pointF c F op cn t er draw).1, clk, (pointF c F op cn t er draw).2) := by
        unfold pointF
        split
        · rfl
        · split <;> rfl
      rw [hq]
      exact ⟨L2, hT, hlen, fun w hr => rdo_point h hl A cap hc clk k wk op cn t dr er draw a b d hF true hv rfl k3 L2 _ w (fun W hb => hp W (Kd.C_below hr hb)) hr⟩
    · rw [if_neg k3]
      rcases lrB_k hv with q | q | q | q | q
      · exact absurd q k1
      · exact ⟨L, h, rfl, rdo_two h hl A cap hc clk k wk op cn t dr er draw a b d hF true hv rfl q⟩
      · exact absurd q k3
      · exact absurd q k4
      · exact ⟨L, h, rfl, rdo_five h hl A cap hc clk k wk op cn t dr er draw a b d hF true hv rfl q⟩
theorem cfBad_code (l : List Int) : ∀ (d : Nat) (i : Int), (Kw.cfBad l d i).2 = 0 ∨ (Kw.cfBad l d i).2 = 7
  | 0, _ => .inl rfl
  | d + 1, i => by
    unfold Kw.cfBad
    split
    · exact .inr rfl
    · exact cfBad_code l d (i + 1)
theorem cfCode_seven {c : Cf} (h : cfCode c ≠ 0) : cfCode c = 7 := by
  have := cfBad_code [c.c0, c.c1, c.c2, c.c3, c.c4, c.c5, c.c6, c.c7, c.c8, c.c9, c.c10, c.c11, c.c12] 13 0
  unfold cfCode at h ⊢
  omega
theorem cf_conns {c : Cf} (h : cfCode c = 0) : 0 ≤ c.c7 ∧ c.c7 ≤ 256 := by
  have h1 := PureLk.cfBad_ok _ _ _ h 7 (by omega)
  have h2 : Kw.cfLeast 7 ≤ c.c7 ∧ c.c7 ≤ 256 := h1
  have h3 : 0 ≤ Kw.cfLeast 7 := by decide
  omega
theorem rnew_no (c : Cf) (h : cfCode c ≠ 0) (W : World) : Calls Try.prog 40 #[.agg c.cells] W fun e w' => ∃ A cap, e = .returned (.tuple #[.agg #[.int .i64 0, .int .i64 0, .int .i64 0, .int .i64 0, .int .i64 0, .int .i64 0, .int .i64 0, .int .i64 0, .int .i64 0, .int .i64 0, .int .i64 0, .int .i64 0, .int .i64 0, .int .i64 0, .slice A 0 cap], .int .i64 7]) ∧ Below W.heap.size W w' := by
  refine (knellref24_New.calls c.c0 c.c1 c.c2 c.c3 c.c4 c.c5 c.c6 c.c7 c.c8 c.c9 c.c10 c.c11 c.c12 0 0 0 0 0 0 0 0 0 0 0 0 0 0 [] 7 W ?_).mono ?_
  · unfold knellref24_New.f
    rw [show knellref03_Right.f c.c0 c.c1 c.c2 c.c3 c.c4 c.c5 c.c6 c.c7 c.c8 c.c9 c.c10 c.c11 c.c12 = some false from ?_]
    · rfl
    · show some (cfCode c == 0) = some false
      rw [beq_eq_false_iff_ne.2 h]
  · rintro e w' ⟨v, he, hR, hb⟩
    obtain ⟨A, cap, rfl⟩ := Kd.R_slice hR
    exact ⟨A, cap, he, hb⟩
theorem rnew_ok (c : Cf) (h : cfCode c = 0) (W : World) : Calls Try.prog 40 #[.agg c.cells] W fun e w' => ∃ A cap, e = .returned (.tuple #[.agg (rbA c 0 (.slice A (List.replicate c.c7.toNat z71).length cap)), .int .i64 0]) ∧ Kd.R k71 71 w' W.heap.size (fun _ => True) (.slice A (List.replicate c.c7.toNat z71).length cap) (List.replicate c.c7.toNat z71) ∧ Below W.heap.size W w' := by
  have hcn := cf_conns h
  refine (knellref24_New.calls c.c0 c.c1 c.c2 c.c3 c.c4 c.c5 c.c6 c.c7 c.c8 c.c9 c.c10 c.c11 c.c12 c.c0 c.c1 c.c2 c.c3 c.c4 c.c5 c.c6 c.c7 c.c8 c.c9 c.c10 c.c11 c.c12 0 (List.replicate c.c7.toNat z71) 0 W ?_).mono ?_
  · unfold knellref24_New.f
    rw [show knellref03_Right.f c.c0 c.c1 c.c2 c.c3 c.c4 c.c5 c.c6 c.c7 c.c8 c.c9 c.c10 c.c11 c.c12 = some true from ?_]
    · rw [Option.bind_some, if_pos rfl, if_pos hcn.1, if_pos (by omega)]
    · show some (cfCode c == 0) = some true
      rw [beq_iff_eq.2 h]
  · rintro e w' ⟨v, he, hR, hb⟩
    obtain ⟨A, cap, rfl⟩ := Kd.R_slice hR
    exact ⟨A, cap, he, hR, hb⟩
theorem tie_new {c : Cf} (h : cfCode c = 0) : Tie c (fun _ => none) (List.replicate c.c7.toNat z71) := by
  have hcn := cf_conns h
  refine ⟨by rw [List.length_replicate]; omega, fun x => ?_⟩
  split
  · rename_i hx
    rw [List.length_replicate] at hx
    have : rd_T71 (List.replicate c.c7.toNat z71) x = z71 := by
      show (List.replicate c.c7.toNat z71).getD x.toNat z71 = z71
      rw [List.getD_eq_getElem?_getD, List.getElem?_replicate]
      split <;> rfl
    rw [this]
    rfl
  · rfl
theorem eqSt (d : Nat) (w : World) (x0 x1 x2 y0 y1 y2 : Int) : (Op.equalIn (d + 2) 56 (.agg #[.int .i64 x0, .int .i64 x1, .int .i64 x2]) (.agg #[.int .i64 y0, .int .i64 y1, .int .i64 y2])).run Try.prog w = .ok (x0 == y0 && (x1 == y1 && (x2 == y2))) w := by
  refine eqA_of Try.underlying56 (by kernel_rfl) ?_
  refine eqf_cons (by rfl) (by go_simp; rfl) (by go_simp; rfl) (by go_simp) ?_
  refine eqf_cons (by rfl) (by go_simp; rfl) (by go_simp; rfl) (by go_simp) ?_
  exact eqf_last (by rfl) (by go_simp; rfl) (by go_simp; rfl) (by go_simp)
theorem wf_small {x : Int} (h0 : -2 ≤ x) (h1 : x ≤ 1000000) : (Lit.int .i64 x).wf = true := by
  have e1 : IntKind.i64.min = -9223372036854775808 := by rfl
  have e2 : IntKind.i64.max = 9223372036854775807 := by rfl
  simp only [Lit.wf, decide_eq_true_eq, Bool.and_eq_true]
  omega
/-- The document's book in memory. -/
structure Rf (w W : World) (c : Cf) (clk : Int) (F : SM) (A : Option Addr) (cap : Nat) (L : List S71) (b : Nat) : Prop where
  tie : Tie c F L
  len : L.length ≤ cap
  row : Kd.R k71 71 W w.heap.size (fun _ => True) (.slice A L.length cap) L
  b : W.heap[b]? = some (.cells (rbA c clk (.slice A L.length cap)) 66 (0, 0))
section
variable {w W W1 : World} {g m n : Nat} {c : Cf} {clk clk' : Int} {F F' : SM} {A A' : Option Addr} {cap cap' : Nat} {L L' : List S71} {b : Nat}
theorem Rf.step (h : Rf w W c clk F A cap L b) (hb : Below W.heap.size W W1) : Rf w W1 c clk F A cap L b := ⟨h.tie, h.len, Kd.R_below h.row hb, blk_below h.b hb⟩
theorem Rf.alloc (h : Rf w W c clk F A cap L b) (o : Obj) : Rf w (W.alloc o) c clk F A cap L b := h.step (below_alloc (Below.refl _ _) _)
theorem Rf.reads (h : Rf w W c clk F A cap L b) : Kd.C k71 W A L.length L := (R_out h.row).2.2
theorem La.ne (h : La w W g m n c clk F) {b : Nat} {cs : Array Value} {t : TypeId} (hb : W.heap[b]? = some (.cells cs t (0, 0))) (ht : t ≠ 107) : b ≠ g ∧ b ≠ m := by
  obtain ⟨s, hs, hB⟩ := h.book
  refine ⟨fun e => ?_, fun e => ?_⟩
  · subst e
    have := hB.blk.symm.trans hb
    simp only [Option.some.injEq, Obj.cells.injEq] at this
    exact ht this.2.1.symm
  · subst e
    obtain ⟨D, ⟨es, cl, hm, _⟩, _⟩ := hB.map
    rw [hb] at hm
    cases hm
theorem Rf.chg (h : Rf w W c clk F A cap L b) (hl : La w W g m n c clk' F') (hch : Chg W W1 g m) : Rf w W1 c clk F A cap L b := by
  have hn := hl.ne h.b (by decide)
  refine ⟨h.tie, h.len, ?_, (hch.block _ (blk_lt h.b) hn.1 hn.2).trans h.b⟩
  have hr := Kd.R_mono (Kd.R_bound h.row) (ok' := fun k => k ≠ g ∧ k ≠ m) (fun k hk => by
    obtain ⟨_, _, _, q, hq, cells, hc⟩ := hk
    exact hl.ne hc (by rintro rfl; revert hq; decide))
  exact Kd.R_mono (Kd.R_step hr (fun k hk hlt => hch.block k hlt hk.1 hk.2)) (fun _ _ => trivial)
/-- Another book stored. -/
theorem Rf.put {cs0 : Array Value} (h : W.heap[b]? = some (.cells cs0 66 (0, 0))) (ht : Tie c F' L') (hl : L'.length ≤ cap') (hr : Kd.R k71 71 W w.heap.size (fun _ => True) (.slice A' L'.length cap') L') : Rf w (W.setRow b (rbA c clk' (.slice A' L'.length cap'))) c clk' F' A' cap' L' b :=
  ⟨ht, hl, Kd.R_mono (R_row (cs' := rbA c clk' (.slice A' L'.length cap')) hr h) (fun _ _ => trivial), setRow_heap W b _ _ _ _ h⟩
theorem La.row (h : La w W g m n c clk F) {b : Nat} (hw : w.heap.size ≤ b) {cs : Array Value} {t : TypeId} (hb : W.heap[b]? = some (.cells cs t (0, 0))) (ht : t ≠ 107) (cs' : Array Value) : La w (W.setRow b cs') g m n c clk F := by
  have hn := h.ne hb ht
  refine h.move ⟨h.below.os, h.below.tape, h.below.output, by have := h.below.size; simpa [World.setRow] using this, fun k hk => (Go.setRow_other W b k cs' (by omega)).trans (h.below.block k hk)⟩ (Go.setRow_other W b g cs' (Ne.symm hn.1)) (Go.setRow_other W b m cs' (Ne.symm hn.2))
theorem Rf.other (h : Rf w W c clk F A cap L b) {b' : Nat} {cs0 : Array Value} (hb : W.heap[b']? = some (.cells cs0 66 (0, 0))) (hne : b ≠ b') (cs' : Array Value) : Rf w (W.setRow b' cs') c clk F A cap L b :=
  ⟨h.tie, h.len, Kd.R_mono (R_row (cs' := cs') h.row hb) (fun _ _ => trivial), (Go.setRow_other W b' b cs' hne).trans h.b⟩
/-- .. and the program's, and an event's block. -/
structure Ly (w W : World) (g m n : Nat) (c : Cf) (clk : Int) (F : SM) (clk' : Int) (F' : SM) (A : Option Addr) (cap : Nat) (L : List S71) (b yb : Nat) (ev : Array Value) : Prop where
  la : La w W g m n c clk F
  rf : Rf w W c clk' F' A cap L b
  bw : w.heap.size ≤ b
  y : W.heap[yb]? = some (.cells ev 54 (0, 0))
variable {yb : Nat} {ev : Array Value}
theorem Ly.step (h : Ly w W g m n c clk F clk' F' A cap L b yb ev) (hb : Below W.heap.size W W1) : Ly w W1 g m n c clk F clk' F' A cap L b yb ev := ⟨h.la.step hb, h.rf.step hb, h.bw, blk_below h.y hb⟩
theorem Ly.alloc (h : Ly w W g m n c clk F clk' F' A cap L b yb ev) (o : Obj) : Ly w (W.alloc o) g m n c clk F clk' F' A cap L b yb ev := h.step (below_alloc (Below.refl _ _) _)
theorem Ly.drew (h : Ly w W g m n c clk F clk' F' A cap L b yb ev) : Ly w W.drew g m n c clk F clk' F' A cap L b yb ev := h.step (Below.drew (Below.refl _ _))
theorem Ly.next {clk2 : Int} {F2 : SM} {n2 : Nat} (h : Ly w W g m n c clk F clk' F' A cap L b yb ev) (hl : La w W1 g m n2 c clk2 F2) (hch : Chg W W1 g m) : Ly w W1 g m n2 c clk2 F2 clk' F' A cap L b yb ev :=
  ⟨hl, h.rf.chg h.la hch, h.bw, by have hn := h.la.ne h.y (by decide); exact (hch.block _ (blk_lt h.y) hn.1 hn.2).trans h.y⟩
theorem Ly.cells (h : Ly w W g m n c clk F clk' F' A cap L b yb ev) : (∀ i, W.cell? ⟨yb, i, none⟩ = ev[i]?) ∧ (∀ i, W.cell? ⟨b, i, none⟩ = (rbA c clk' (.slice A L.length cap))[i]?) := ⟨fun i => blk_cell h.y i, fun i => blk_cell h.rf.b i⟩
theorem y_row {b' : Nat} {cs0 : Array Value} (hb : W.heap[b']? = some (.cells cs0 66 (0, 0))) (hy : W.heap[yb]? = some (.cells ev 54 (0, 0))) (cs' : Array Value) : (W.setRow b' cs').heap[yb]? = some (.cells ev 54 (0, 0)) := by
  refine (Go.setRow_other W b' yb cs' ?_).trans hy
  rintro rfl
  rw [hb] at hy
  simp only [Option.some.injEq, Obj.cells.injEq] at hy
  exact absurd hy.2.1 (by decide)
/-- The answer stored in a block of its own. -/
theorem Ly.keep (h : Ly w W g m n c clk F clk' F' A cap L b yb ev) (o : Array Value) (cs' : Array Value) : Ly w ((W.alloc (.cells o 66)).setRow W.heap.size cs') g m n c clk F clk' F' A cap L b yb ev :=
  ⟨(h.la.alloc (.cells o 66)).row h.la.below.size (blk_new W _) (by decide) cs', (h.rf.alloc (.cells o 66)).other (blk_new W _) (by have := blk_lt h.rf.b; omega) cs', h.bw, y_row (blk_new W _) (blk_alloc h.y _) cs'⟩
/-- .. and then in the book's. -/
theorem Ly.into (h : Ly w W g m n c clk F clk' F' A cap L b yb ev) {clk2 : Int} {F2 : SM} {A2 : Option Addr} {cap2 : Nat} {L2 : List S71} (ht : Tie c F2 L2) (hl : L2.length ≤ cap2) (hr : Kd.R k71 71 W w.heap.size (fun _ => True) (.slice A2 L2.length cap2) L2) : Ly w (W.setRow b (rbA c clk2 (.slice A2 L2.length cap2))) g m n c clk F clk2 F2 A2 cap2 L2 b yb ev :=
  ⟨h.la.row h.bw h.rf.b (by decide) _, Rf.put h.rf.b ht hl hr, h.bw, y_row h.rf.b h.y _⟩
theorem La.clock (h : La w W g m n c clk F) : Calls Try.prog 42 #[.pointer (some ⟨g, 0, none⟩)] W fun e w' => e = .returned (.int .i64 clk) ∧ w' = W := by
  obtain ⟨s, hs, hB⟩ := h.book
  refine (clock_any W hB).mono ?_
  rintro e w' ⟨he, rfl⟩
  exact ⟨he, rfl⟩
end
end Go.Proofs.Ythljanmfanppdaa.Bk

namespace Go.Proofs.Ythljanmfanppdaa.Bk
open Go.RowKit Go.Maps Go.Proofs.YthljanmfanppdaaW.PrintWords Go.Proofs.YthljanmfanppdaaW.PrintLast Go.Proofs.YthljanmfanppdaaW.PrintMore Go.Proofs.Ythljanmfanppdaa.Mp Go.Proofs.Ythljanmfanppdaa.KLa Go.Proofs.Ythljanmfanppdaa.KRf
attribute [local go_sem high] eqSt

set_option maxHeartbeats 8000000 in
set_option maxRecDepth 100000 in
theorem plays_long (c : Cf) (A1 : Option Addr) (n1 : Nat) (q1 : Nat) (A2 : Option Addr) (n2 q2 : Nat) (hn : 60 < n1) (w : World) :
    Calls Try.prog 10 #[.agg c.cells, .slice A1 n1 q1, .slice A2 n2 q2] w fun e w' => e = .returned (.bool true) ∧ Below w.heap.size w w' := by
  have CS := Aside0.mk (fun W => speaks_any W)
  have hn' : decide ((n1 : Int) > 60) = true := by simp; omega
  go_enter Try.func10, Try.ntmps10
  go_wp2_with (first | (go_at_call 35; (with_reducible refine (CS.out _).mono ?_); rintro e w2 ⟨rfl, hb⟩; have n3 := Aside0.mk (below_step n1.out hb); clear hb; clear n1; have n1 := n3) | (go_at_call 35; (with_reducible refine (CS.out _).mono ?_); rintro e w1 ⟨rfl, hb⟩; have n1 := Aside0.mk (show Below w.heap.size w w1 from below_step (below_alloc (Below.refl _ _) _) hb); have n2 := Aside0.mk ((hb.block w.heap.size (by simp)).trans (heap_alloc_new w (.cells c.cells 33))); have hc := fun i => blk_cell n2.out i; clear hb))
  go_ret
  exact ⟨rfl, n1.out⟩
theorem row_below {w W : World} {n b : Nat} (h : Below n w W) (hb : n ≤ b) (cs : Array Value) : Below n w (W.setRow b cs) :=
  ⟨h.os, h.tape, h.output, by have := h.size; simpa [World.setRow] using this, fun k hk => (Go.setRow_other W b k cs (by omega)).trans (h.block k hk)⟩
set_option maxHeartbeats 8000000 in
set_option maxRecDepth 100000 in
theorem plays_wrong (c : Cf) (A1 : Option Addr) (n1 : Nat) (q1 : Nat) (A2 : Option Addr) (n2 q2 : Nat) (hn : n1 ≤ 60) (hc0 : cfCode c ≠ 0) (w : World) :
    Calls Try.prog 10 #[.agg c.cells, .slice A1 n1 q1, .slice A2 n2 q2] w fun e w' => e = .returned (.bool true) ∧ Below w.heap.size w w' := by
  have hu66 := Try.underlying66
  have CS := Aside0.mk (fun W => speaks_any W)
  have CO := Aside0.mk (fun W => of_calls c W)
  have CN := Aside0.mk (fun W => new_is c W)
  rw [cfCode_seven hc0] at CN
  have CR := Aside0.mk (fun W => rnew_no c hc0 W)
  have hn' : decide ((n1 : Int) > 60) = false := by simp; omega
  clear hc0 hn
  go_enter Try.func10, Try.ntmps10
  go_wp2_with (first | (go_at_call 35; (with_reducible refine (CS.out _).mono ?_); rintro e w1 ⟨rfl, hb⟩; have n1 := Aside0.mk (show Below w.heap.size w w1 from below_step (below_alloc (Below.refl _ _) _) hb); have n2 := Aside0.mk ((hb.block w.heap.size (by simp)).trans (heap_alloc_new w (.cells c.cells 33))); have hc := fun i => blk_cell n2.out i; clear hb) | (go_at_call 23; (with_reducible refine (CO.out _).mono ?_); rintro e w3 ⟨rfl, hb⟩; have n3 := Aside0.mk (below_step n1.out hb); have m3 := Aside0.mk ((hb.block _ (blk_lt n2.out)).trans n2.out); clear hb n1 n2 hc; have hc := fun i => blk_cell m3.out i) | (go_at_call 36; (with_reducible refine (CN.out _).mono ?_); rintro e w4 (⟨_, rfl, hb⟩ | ⟨h0, _⟩); rotate_left; (exact absurd h0 (by decide)); have n4 := Aside0.mk (below_step n3.out hb); have m4 := Aside0.mk ((hb.block _ (blk_lt m3.out)).trans m3.out); clear hb n3 m3 hc; have hc := fun i => blk_cell m4.out i) | (go_at_call 40; (with_reducible refine (CR.out _).mono ?_); rintro e w5 ⟨A0, cap0, rfl, hb⟩; have n5 := Aside0.mk (below_step n4.out hb); clear hb n4 m4 hc) | ((with_reducible refine gate_store (t := 66) (p := 9) rfl ?_); refine wpList_store_row rfl 66 _ _ rfl (w5.heap.size) (#[.int .i64 0, .int .i64 0, .int .i64 0, .int .i64 0, .int .i64 0, .int .i64 0, .int .i64 0, .int .i64 0, .int .i64 0, .int .i64 0, .int .i64 0, .int .i64 0, .int .i64 0, .int .i64 0, .slice A0 0 cap0]) rfl rfl 66 _ (blk_new w5 _) (by kernel_rfl) (by kernel_rfl) (by kernel_rfl) ?_; have HB := Aside0.mk (show Below w.heap.size w ((w5.alloc (.cells rb0 66)).setRow w5.heap.size #[.int .i64 0, .int .i64 0, .int .i64 0, .int .i64 0, .int .i64 0, .int .i64 0, .int .i64 0, .int .i64 0, .int .i64 0, .int .i64 0, .int .i64 0, .int .i64 0, .int .i64 0, .int .i64 0, .slice A0 0 cap0]) from row_below (below_alloc n5.out _) n5.out.size _)))
  go_ret
  exact ⟨rfl, HB.out⟩
def playsR.T17 : Bool × List (List Nat × List Nat) := (true, [([], []), ([], []), ([1], [1]), ([], []), ([0, 2, 3, 2], [0, 2, 3]), ([], []), ([4, 5], [4, 5]), ([6, 4], [6]), ([7], [7]), ([8, 7, 7], [7, 8]), ([7], [7]), ([10, 7], [7, 10]), ([9, 11, 7], [7, 9, 11]), ([7, 12], [7, 12])])
def playsR.B17 : List Nat := [0, 0, 2, 0, 15, 0, 63, 127, 255, 511, 255, 1279, 4095, 8191]
theorem playsR.tab17 : rtab .any (opsOf Try.f10 17) = playsR.T17 := by kernel_rfl
theorem playsR.bits17 : waitsOk playsR.T17.2 playsR.B17 = true := by kernel_rfl
def playsR.T23 : Bool × List (List Nat × List Nat) := (true, [([], []), ([], []), ([0, 1], [0, 1]), ([], []), ([3], [3]), ([], []), ([5], [5]), ([], []), ([7], [7]), ([4, 6, 8], [4, 6, 8]), ([2, 9], [2, 9])])
def playsR.B23 : List Nat := [0, 0, 3, 0, 8, 0, 32, 0, 128, 504, 1023]
theorem playsR.tab23 : rtab .any (opsOf Try.f10 23) = playsR.T23 := by kernel_rfl
theorem playsR.bits23 : waitsOk playsR.T23.2 playsR.B23 = true := by kernel_rfl
set_option maxHeartbeats 20000000 in
set_option maxRecDepth 100000 in
theorem plays_main (c : Cf) (A1 : Option Addr) (q1 : Nat) (l1 : List S54) (A2 : Option Addr) (q2 : Nat) (l2 : List Int) (hn : l1.length ≤ 60) (hc0 : cfCode c = 0) (w : World) (hr1 : Kd.C k54 w A1 l1.length l1) (hr2 : Kd.C (Kd.int .i64) w A2 l2.length l2) (hwf : ∀ i : Int, (Lit.int .i64 (rd_T54 l1 i).f3).wf = true) :
    Calls Try.prog 10 #[.agg c.cells, .slice A1 l1.length q1, .slice A2 l2.length q2] w fun e w' => e = .returned (.bool true) ∧ Below w.heap.size w w' := by
  have hu54 := Try.underlying54
  have hu2 := Try.underlying56
  have hu66 := Try.underlying66
  have hu71 := Try.underlying71
  have CS := Aside0.mk (fun W => speaks_any W)
  have CO := Aside0.mk (fun W => of_calls c W)
  have CN := Aside0.mk (fun W => new_is c W)
  rw [hc0] at CN
  have CR := Aside0.mk (fun W => rnew_ok c hc0 W)
  have HT := Aside0.mk (tie_new hc0)
  have HCN := Aside0.mk (cf_conns hc0)
  generalize List.replicate c.c7.toNat z71 = L0 at CR HT
  have HR1 := Aside0.mk hr1
  have HR2 := Aside0.mk hr2
  have HW := Aside0.mk hwf
  have HN := Aside0.mk hn
  have hn' : decide ((l1.length : Int) > 60) = false := by simp; omega
  clear hr1 hr2 hwf hn hc0
  go_enter Try.func10, Try.ntmps10
  go_wp2_with (first | (go_at_call 35; (with_reducible refine (CS.out _).mono ?_); rintro e w1 ⟨rfl, hb⟩; have n1 := Aside0.mk (show Below w.heap.size w w1 from below_step (below_alloc (Below.refl _ _) _) hb); have n2 := Aside0.mk ((hb.block w.heap.size (by simp)).trans (heap_alloc_new w (.cells c.cells 33))); have hc := fun i => blk_cell n2.out i; clear hb) | (go_at_call 23; (with_reducible refine (CO.out _).mono ?_); rintro e w3 ⟨rfl, hb⟩; have n3 := Aside0.mk (below_step n1.out hb); have m3 := Aside0.mk ((hb.block _ (blk_lt n2.out)).trans n2.out); clear hb n1 n2 hc; have hc := fun i => blk_cell m3.out i) | (go_at_call 36; (with_reducible refine (CN.out _).mono ?_); rintro e w4 (⟨h0, _⟩ | ⟨_, g, m, rfl, hg, hm, hB, hb⟩); (exact absurd rfl h0); have n4 := Aside0.mk (show La w w4 g m 0 c 0 (fun _ => none) from ⟨below_step n3.out hb, ⟨0, Nat.le_refl _, hB⟩, Nat.le_trans n3.out.size hg, Nat.le_trans n3.out.size hm⟩); have m4 := Aside0.mk ((hb.block _ (blk_lt m3.out)).trans m3.out); clear hg hm hB hb n3 m3 hc; have hc := fun i => blk_cell m4.out i) | (go_at_call 40; (with_reducible refine (CR.out _).mono ?_); rintro e w5 ⟨A0, cap0, rfl, hR, hb⟩; have n5 := Aside0.mk (n4.out.step hb); have r5 := Aside0.mk (Kd.R_lower hR n4.out.below.size); clear hb hR n4 m4 hc) | ((with_reducible refine gate_store (t := 66) (p := 9) rfl ?_); refine wpList_store_row rfl 66 _ _ rfl (w5.heap.size) ((rbA c 0 (.slice A0 L0.length cap0))) rfl rfl 66 _ (blk_new w5 _) (by kernel_rfl) (by kernel_rfl) (by kernel_rfl) ?_; have HL := Aside0.mk (And.intro ((n5.out.alloc (.cells rb0 66)).row n5.out.below.size (blk_new w5 _) (by decide) (rbA c 0 (.slice A0 L0.length cap0))) (Rf.put (clk' := 0) (blk_new w5 (.cells rb0 66)) HT.out (R_out r5.out).2.1 (Kd.R_alloc r5.out _)))))
  obtain ⟨b, hbb⟩ : ∃ b, w5.heap.size = b := ⟨_, rfl⟩
  have HBW := Aside0.mk (hbb ▸ n5.out.below.size : w.heap.size ≤ b)
  rw [hbb] at HL ⊢
  clear n5 r5
  go_loopw [51] (fun i wr => ∃ (n : Nat) (clk : Int) (F : SM) (A : Option Addr) (cap : Nat) (L : List S71), n ≤ l1.length ∧ i = .int .i64 n ∧ Aside0 (La w wr g m n c clk F ∧ Rf w wr c clk F A cap L b)) (fun i _ => l1.length - (intOf i).toNat)
  case atStart => exact ⟨0, 0, fun _ => none, A0, cap0, L0, by omega, rfl, HL⟩
  case round =>
    clear HL
    obtain ⟨n, clk, F, A, cap, L, hn, rfl, HL⟩ := hrel
    rcases Nat.lt_or_ge n l1.length with hlt | hge
    · have p0 : (0 : Int) ≤ (n : Int) := by omega
      have q0 : (n : Int) < (l1.length : Int) := by omega
      obtain ⟨ad, e, h0, h1, h2, h3, h4, h5, h6⟩ := at_T54 HR1.out (n : Int) p0 q0
      cases e
      have HX := Aside0.mk (HW.out (n : Int))
      generalize rd_T54 l1 (n : Int) = E at h0 h1 h2 h3 h4 h5 h6 HX
      obtain ⟨k, wk, op, cn, t, dr, er⟩ := E
      simp only [Int.toNat_natCast] at h0 h1 h2 h3 h4 h5 h6 HX
      replace h0 := (HL.out.1.below.cell (World.block_lt_of_cell? w _ h0)).trans h0
      replace h1 := (HL.out.1.below.cell (World.block_lt_of_cell? w _ h1)).trans h1
      replace h2 := (HL.out.1.below.cell (World.block_lt_of_cell? w _ h2)).trans h2
      replace h3 := (HL.out.1.below.cell (World.block_lt_of_cell? w _ h3)).trans h3
      replace h4 := (HL.out.1.below.cell (World.block_lt_of_cell? w _ h4)).trans h4
      replace h5 := (HL.out.1.below.cell (World.block_lt_of_cell? w _ h5)).trans h5
      replace h6 := (HL.out.1.below.cell (World.block_lt_of_cell? w _ h6)).trans h6
      replace q0 := eq_true q0
      replace p0 := eq_true p0
      have hnn : wrap64 ((n : Int) + 1) = ((n + 1 : Nat) : Int) := by have := HN.out; unfold wrap64; omega
      have HY := Aside0.mk (show Ly w (wr.alloc (.cells (evA k wk op cn t dr er) 54)) g m n c clk F clk F A cap L b wr.heap.size (evA k wk op cn t dr er) from ⟨HL.out.1.alloc _, HL.out.2.alloc _, HBW.out, blk_new _ _⟩)
      have HB := Aside0.mk HL.out.1.below
      clear HL
      go_upto_if 59 with (fail)
      go_cut [13] from 56 to 63 (fun v wc => ∃ draw : Int, v = .int .i64 draw ∧ Aside0 (Ly w wc g m n c clk F clk F A cap L b wr.heap.size (evA k wk op cn t dr er)))
      case first =>
        rcases Nat.lt_or_ge n l2.length with hd | hd
        · have d0 : (0 : Int) ≤ (n : Int) := by omega
          have d1 : (n : Int) < (l2.length : Int) := by omega
          obtain ⟨ad2, e, hd2⟩ := Kd.at_int HR2.out (n : Int) d0 d1
          cases e
          replace hd2 := (HB.out.cell (World.block_lt_of_cell? w _ hd2)).trans hd2
          generalize rd l2 (n : Int) = draw at hd2
          rw [Int.toNat_natCast] at hd2
          have hdl := World.block_lt_of_cell? _ _ hd2
          replace hd2 : (wr.alloc (.cells (evA k wk op cn t dr er) 54)).cell? (ad2.add n) = some (.int .i64 draw) := ((below_alloc (Below.refl _ _) _).cell hdl).trans hd2
          replace d1 := eq_true d1
          go_wp2
          go_meet
          case rel => exact ⟨draw, rfl, HY⟩
        · have d1 : ((n : Int) < (l2.length : Int)) = False := eq_false (by omega)
          go_wp2
          go_meet
          case rel => exact ⟨0, rfl, HY⟩
      case rest =>
        clear HY h0 h1 h2 h3 h4 h5 h6
        obtain ⟨draw, rfl, HY⟩ := hcut
        have hll : L.length ≤ 1000000 := by have h1 := HY.out.rf.tie.len; have h2 := HCN.out; omega
        obtain ⟨L2, hT2, hlen2, hDo⟩ := rdo_any HY.out.rf.tie hll A cap HY.out.rf.len clk k wk op cn t dr er draw
        have HL2 := Aside0.mk (show L2.length ≤ 999999 by have h1 := HY.out.rf.tie.len; have h2 := HCN.out; omega)
        have CD0 := Aside0.mk (fun (W : World) (h : La w W g m n c clk F) => h.doing (by have := HN.out; omega) k wk op cn t dr er draw HX.out)
        obtain ⟨code, clk', F', hdo⟩ : ∃ code clk' F', doF c clk F k wk op cn t dr er draw = (code, clk', F') := ⟨_, _, _, rfl⟩
        rw [hdo] at hT2 hDo CD0
        simp only at hT2 hDo CD0
        have CD := CD0
        have HT2 := Aside0.mk hT2
        have CRD := Aside0.mk hDo
        have CE := Aside0.mk (fun W => eof_calls k wk op cn t dr er W)
        have g1 : (code != code) = false := by simp
        have g2 : (clk' != clk') = false := by simp
        clear hT2 hDo CD0 hdo hlen2 hll
        have hcy := fun i => blk_cell HY.out.y i
        have hcb := fun i => blk_cell HY.out.rf.b i
        go_wp2_with (first | (go_at_call 41; (with_reducible refine (CRD.out _ HY.out.rf.reads).mono ?_); rintro e w7 ⟨A9, cap9, rfl, hc9, hR9, hb⟩; have HY2 := Aside0.mk (HY.out.step hb); have HR9 : Aside0 (Kd.R k71 71 w7 w.heap.size (fun _ => True) (.slice A9 L2.length cap9) L2) := ⟨by rcases hR9 with ⟨rfl, rfl, rfl⟩ | q; exact HY2.out.rf.row; exact Kd.R_lower q HY.out.la.below.size⟩; have HD9 := Aside0.mk hc9; clear hb hR9 hc9 hcy hcb; have hcy := fun i => blk_cell HY2.out.y i; have hcb := fun i => blk_cell HY2.out.rf.b i) | ((with_reducible refine gate_store (t := 66) (p := 14) rfl ?_); refine wpList_store_row rfl 66 _ _ rfl (w7.heap.size) ((rbA c clk' (.slice A9 L2.length cap9))) rfl rfl 66 _ (blk_new w7 _) (by kernel_rfl) (by kernel_rfl) (by kernel_rfl) ?_; have HY3 := Aside0.mk (HY2.out.keep rb0 (rbA c clk' (.slice A9 L2.length cap9))); have HR3 := Aside0.mk (Kd.R_mono (R_row (cs' := (rbA c clk' (.slice A9 L2.length cap9))) (Kd.R_alloc HR9.out (.cells rb0 66)) (blk_new w7 _)) (ok' := fun _ => True) (fun _ _ => trivial)); have h14 := Aside0.mk (setRow_heap (w7.alloc (.cells rb0 66)) w7.heap.size _ (rbA c clk' (.slice A9 L2.length cap9)) 66 _ (blk_new w7 _)); have hc14 := fun i => blk_cell h14.out i; clear hcy hcb) | ((with_reducible refine gate_store (t := 66) (p := 9) rfl ?_); refine wpList_store_row rfl 66 _ _ rfl (b) ((rbA c clk' (.slice A9 L2.length cap9))) rfl rfl 66 _ (HY3.out.rf.b) (by kernel_rfl) (by kernel_rfl) (by kernel_rfl) ?_; have HY4 := Aside0.mk (HY3.out.into (clk2 := clk') HT2.out HD9.out HR3.out)))
        have HS5 := Aside0.mk HY4.out.drew
        refine start_ (n := 14) (S := (fun w' => (∀ i, w'.cell? ⟨wr.heap.size, i, none⟩ = (evA k wk op cn t dr er)[i]?) ∧ (∀ i, w'.cell? ⟨b, i, none⟩ = (rbA c clk' (.slice A9 L2.length cap9))[i]?))) (ds := []) #[false, false, false, false, false, false, false, false, false, false, false, false, false, false] (by kernel_rfl) rfl rfl HS5.out.cells (fun hHeld => ?_)
        refine with_tabW playsR.tab17 playsR.bits17 (fun HT_ HW_ => ?_)
        have H5 := Aside0.mk HY4.out.drew
        generalize (((w7.alloc (.cells rb0 66)).setRow w7.heap.size (rbA c clk' (.slice A9 L2.length cap9))).setRow b (rbA c clk' (.slice A9 L2.length cap9))).drew = w10 at H5 hHeld ⊢
        refine pure_ (i := 0) (N := (some 72)) (v := ?_) (a' := ?_) #[true, false, false, false, false, false, false, false, false, false, false, false, false, false] rfl rfl (any_of HT_.out (by kernel_rfl)) (fun _ _ _ h => h) (Or.inl ⟨by rfl, ?_⟩) ?_ ?_
        rotate_left
        · intro w'
          go_simp
          with_reducible rfl
        rotate_left
        · simp only [Act.put, List.setIfInBounds_toArray, List.set_cons_zero, List.set_cons_succ, i64_w, i32_w]
          rfl
        refine pure_ (i := 3) (N := (some 75)) (v := ?_) (a' := ?_) #[true, false, false, true, false, false, false, false, false, false, false, false, false, false] rfl rfl (any_of HT_.out (by kernel_rfl)) (fun _ _ _ h => h) (Or.inl ⟨by rfl, ?_⟩) ?_ ?_
        rotate_left
        · intro w'
          go_simp
          with_reducible rfl
        rotate_left
        · simp only [Act.put, List.setIfInBounds_toArray, List.set_cons_zero, List.set_cons_succ, i64_w, i32_w]
          rfl
        refine pure_ (i := 5) (N := (some 77)) (v := ?_) (a' := ?_) #[true, false, false, true, false, true, false, false, false, false, false, false, false, false] rfl rfl (any_of HT_.out (by kernel_rfl)) (fun _ _ _ h => h) (Or.inl ⟨by rfl, ?_⟩) ?_ ?_
        rotate_left
        · intro w'
          go_simp
          with_reducible rfl
        rotate_left
        · simp only [Act.put, List.setIfInBounds_toArray, List.set_cons_zero, List.set_cons_succ, i64_w, i32_w]
          rfl
        refine take_ (i := 1) (N := (some 73)) (v := ?_) (a' := ?_) #[true, true, false, true, false, true, false, false, false, false, false, false, false, false] rfl rfl (take_ofW HT_.out HW_.out (by kernel_rfl)) (fun _ _ _ h => h) (Or.inl ⟨by rfl, ?_⟩) hHeld ?_ ?_
        rotate_left
        · rintro w' ⟨s0, s1⟩
          go_simp
          with_reducible rfl
        rotate_left
        · simp only [Act.put, List.setIfInBounds_toArray, List.set_cons_zero, List.set_cons_succ, i64_w, i32_w]
          rfl
        refine one_ (i := 2) (N := (some 74)) #[true, true, true, true, false, true, false, false, false, false, false, false, false, false] rfl rfl (one_of HT_.out (by kernel_rfl)) (by decide) (fun K hK => ?_)
        refine call_ (f := 39) #[.agg #[.int .i64 k, .int .i64 wk, .int .i64 op, .int .i64 cn, .int .i64 t, .int .i64 dr, .int .i64 er]] (by rfl) rfl (by go_simp <;> rfl) ?_
        refine (CE.out w10).mono ?_
        rintro e w11 ⟨rfl, hb⟩
        refine ⟨_, rfl, ?_⟩
        have H6 := Aside0.mk (H5.out.step hb)
        clear hb
        refine hK.out _ _ H6.out.cells (fun hHeld => ?_)
        clear hK K
        refine norm_ (a' := ?_) ?_ ?_
        rotate_left
        · show Act.put _ (some 74) _ = _
          simp only [Act.put, List.setIfInBounds_toArray, List.set_cons_zero, List.set_cons_succ, i64_w, i32_w]
          rfl
        refine one_ (i := 4) (N := (some 76)) #[true, true, true, true, true, true, false, false, false, false, false, false, false, false] rfl rfl (one_of HT_.out (by kernel_rfl)) (by decide) (fun K hK => ?_)
        refine call_ (f := 38) #[.pointer (some ⟨g, 0, none⟩), .agg #[.int .i64 k, .int .i64 wk, .int .i64 op, .int .i64 cn, .int .i64 t, .int .i64 dr, .int .i64 er], .int .i64 draw] (by rfl) rfl (by go_simp <;> rfl) ?_
        refine (CD.out w11 H6.out.la).mono ?_
        rintro e w12 ⟨rfl, hl, hch⟩
        refine ⟨_, rfl, ?_⟩
        have H7 := Aside0.mk (H6.out.next hl hch)
        clear hl hch
        refine hK.out _ _ H7.out.cells (fun hHeld => ?_)
        clear hK K
        refine norm_ (a' := ?_) ?_ ?_
        rotate_left
        · show Act.put _ (some 76) _ = _
          simp only [Act.put, List.setIfInBounds_toArray, List.set_cons_zero, List.set_cons_succ, i64_w, i32_w]
          rfl
        refine pure_ (i := 6) (N := (some 78)) (v := ?_) (a' := ?_) #[true, true, true, true, true, true, true, false, false, false, false, false, false, false] rfl rfl (any_of HT_.out (by kernel_rfl)) (fun _ _ _ h => h) (Or.inl ⟨by rfl, ?_⟩) ?_ ?_
        rotate_left
        · intro w'
          go_simp
          with_reducible rfl
        rotate_left
        · simp only [Act.put, List.setIfInBounds_toArray, List.set_cons_zero, List.set_cons_succ, i64_w, i32_w]
          rfl
        refine pure_ (i := 7) (N := (some 79)) (v := ?_) (a' := ?_) #[true, true, true, true, true, true, true, true, false, false, false, false, false, false] rfl rfl (any_of HT_.out (by kernel_rfl)) (fun _ _ _ h => h) (Or.inl ⟨by rfl, ?_⟩) ?_ ?_
        rotate_left
        · intro w'
          go_simp
          with_reducible rfl
        rotate_left
        · simp only [Act.put, List.setIfInBounds_toArray, List.set_cons_zero, List.set_cons_succ, i64_w, i32_w]
          rfl
        refine pure_ (i := 8) (N := (some 80)) (v := ?_) (a' := ?_) #[true, true, true, true, true, true, true, true, true, false, false, false, false, false] rfl rfl (any_of HT_.out (by kernel_rfl)) (fun _ _ _ h => h) (Or.inl ⟨by rfl, ?_⟩) ?_ ?_
        rotate_left
        · intro w'
          go_simp
          with_reducible rfl
        rotate_left
        · simp only [Act.put, List.setIfInBounds_toArray, List.set_cons_zero, List.set_cons_succ, i64_w, i32_w]
          rfl
        refine pure_ (i := 10) (N := (some 82)) (v := ?_) (a' := ?_) #[true, true, true, true, true, true, true, true, true, false, true, false, false, false] rfl rfl (any_of HT_.out (by kernel_rfl)) (fun _ _ _ h => h) (Or.inl ⟨by rfl, ?_⟩) ?_ ?_
        rotate_left
        · intro w'
          go_simp
          with_reducible rfl
        rotate_left
        · simp only [Act.put, List.setIfInBounds_toArray, List.set_cons_zero, List.set_cons_succ, i64_w, i32_w]
          rfl
        refine take_ (i := 11) (N := (some 83)) (v := ?_) (a' := ?_) #[true, true, true, true, true, true, true, true, true, false, true, true, false, false] rfl rfl (take_ofW HT_.out HW_.out (by kernel_rfl)) (fun _ _ _ h => h) (Or.inl ⟨by rfl, ?_⟩) hHeld ?_ ?_
        rotate_left
        · rintro w' ⟨s0, s1⟩
          go_simp
          with_reducible rfl
        rotate_left
        · simp only [Act.put, List.setIfInBounds_toArray, List.set_cons_zero, List.set_cons_succ, i64_w, i32_w]
          rfl
        refine one_ (i := 9) (N := (some 81)) #[true, true, true, true, true, true, true, true, true, true, true, true, false, false] rfl rfl (one_of HT_.out (by kernel_rfl)) (by decide) (fun K hK => ?_)
        refine call_ (f := 42) #[.pointer (some ⟨g, 0, none⟩)] (by rfl) rfl (by go_simp <;> rfl) ?_
        refine H7.out.la.clock.mono ?_
        rintro e w13 ⟨rfl, hw13⟩
        refine ⟨_, rfl, ?_⟩
        have H8 : Aside0 _ := hw13 ▸ H7
        clear hw13
        refine hK.out _ _ H8.out.cells (fun hHeld => ?_)
        clear hK K
        refine norm_ (a' := ?_) ?_ ?_
        rotate_left
        · show Act.put _ (some 81) _ = _
          simp only [Act.put, List.setIfInBounds_toArray, List.set_cons_zero, List.set_cons_succ, i64_w, i32_w]
          rfl
        refine pure_ (i := 12) (N := (some 84)) (v := ?_) (a' := ?_) #[true, true, true, true, true, true, true, true, true, true, true, true, true, false] rfl rfl (any_of HT_.out (by kernel_rfl)) (fun _ _ _ h => h) (Or.inl ⟨by rfl, ?_⟩) ?_ ?_
        rotate_left
        · intro w'
          go_simp
          with_reducible rfl
        rotate_left
        · simp only [Act.put, List.setIfInBounds_toArray, List.set_cons_zero, List.set_cons_succ, i64_w, i32_w]
          rfl
        refine pure_ (i := 13) (N := (some 85)) (v := ?_) (a' := ?_) #[true, true, true, true, true, true, true, true, true, true, true, true, true, true] rfl rfl (any_of HT_.out (by kernel_rfl)) (fun _ _ _ h => h) (Or.inl ⟨by rfl, ?_⟩) ?_ ?_
        rotate_left
        · intro w'
          go_simp
          with_reducible rfl
        rotate_left
        · simp only [Act.put, List.setIfInBounds_toArray, List.set_cons_zero, List.set_cons_succ, i64_w, i32_w]
          rfl
        refine done_ (done_of HT_.out (by kernel_rfl)) ?_
        clear hHeld
        go_wp2
        have HI0 := Aside0.mk (And.intro H8.out.la H8.out.rf)
        clear H8 H7 H6 H5 HY4 HY3 HS5
        go_loopw [16] (fun v wq => ∃ x : Int, v = .int .i64 x ∧ -1 ≤ x ∧ x ≤ (L2.length : Int) + 1 ∧ Aside0 (La w wq g m (n + 1) c clk' F' ∧ Rf w wq c clk' F' A9 cap9 L2 b)) (fun v _ => ((L2.length : Int) + 1 - intOf v).toNat)
        case atStart => exact ⟨-1, rfl, by omega, by omega, HI0⟩
        case round =>
          clear HI0
          obtain ⟨x, rfl, hx0, hx1, HI⟩ := hrel
          have hci := fun i => blk_cell HI.out.2.b i
          by_cases hx : x ≤ (L2.length : Int)
          · have u1 : decide (x ≤ (L2.length : Int)) = true := decide_eq_true hx
            have hxx : wrap64 (x + 1) = x + 1 := by have := HL2.out; unfold wrap64; omega
            have hwx : (Lit.int .i64 x).wf = true := wf_small (by omega) (by have := HL2.out; omega)
            have HXX := Aside0.mk hx
            clear hx
            obtain ⟨sa, sb, sd, hs⟩ : ∃ a b d, F'.at_ x = (a, b, d) := ⟨_, _, _, rfl⟩
            have g1 : (sa == sa) = true := beq_self_eq_true sa
            have g2 : (sb == sb) = true := beq_self_eq_true sb
            have g3 : (sd == sd) = true := beq_self_eq_true sd
            have CAt := Aside0.mk (fun W hr => at_calls HI.out.2.tie A9 cap9 HI.out.2.len clk' x sa sb sd hs W hr W (Below.refl _ _))
            have CSt : Aside0 (∀ W, La w W g m (n + 1) c clk' F' → Calls Try.prog 37 #[.pointer (some ⟨g, 0, none⟩), .int .i64 x] W fun e w' => e = .returned (.agg #[.int .i64 sa, .int .i64 sb, .int .i64 sd]) ∧ Below W.heap.size W w') := ⟨fun W h => h.state x hwx _ _ _ hs⟩
            clear hwx hs
            go_wp2_with (first | (go_at_call 43; (with_reducible refine (CAt.out _ HI.out.2.reads).mono ?_); rintro e w15 ⟨rfl, hb⟩; have HI2 := Aside0.mk (And.intro (HI.out.1.step hb) (HI.out.2.step hb)); clear hb hci))
            have HS6 : Aside0 ((w15.alloc (.cells #[.int .i64 sa, .int .i64 sb, .int .i64 sd] 71)).drew.heap[w15.heap.size]? = some (.cells #[.int .i64 sa, .int .i64 sb, .int .i64 sd] 71 (0, 0))) := ⟨(blk_new w15 _ : _)⟩
            refine start_ (n := 11) (S := (fun w' => ∀ i, w'.cell? ⟨w15.heap.size, i, none⟩ = (#[.int .i64 sa, .int .i64 sb, .int .i64 sd] : Array Value)[i]?)) (ds := []) #[false, false, false, false, false, false, false, false, false, false, false] (by kernel_rfl) rfl rfl (fun i => blk_cell HS6.out i) (fun hHeld => ?_)
            refine with_tabW playsR.tab23 playsR.bits23 (fun HT_ HW_ => ?_)
            have HI3 := Aside0.mk (And.intro (HI2.out.1.alloc (.cells #[.int .i64 sa, .int .i64 sb, .int .i64 sd] 71)).drew ((HI2.out.2.alloc (.cells #[.int .i64 sa, .int .i64 sb, .int .i64 sd] 71)).step (Below.drew (Below.refl _ _))))
            have HS8 : Aside0 ((w15.alloc (.cells #[.int .i64 sa, .int .i64 sb, .int .i64 sd] 71)).drew.heap[w15.heap.size]? = some (.cells #[.int .i64 sa, .int .i64 sb, .int .i64 sd] 71 (0, 0))) := ⟨(blk_new w15 _ : _)⟩
            generalize (w15.alloc (.cells #[.int .i64 sa, .int .i64 sb, .int .i64 sd] 71)).drew = w17 at HI3 HS8 hHeld ⊢
            refine pure_ (i := 0) (N := (some 96)) (v := ?_) (a' := ?_) #[true, false, false, false, false, false, false, false, false, false, false] rfl rfl (any_of HT_.out (by kernel_rfl)) (fun _ _ _ h => h) (Or.inl ⟨by rfl, ?_⟩) ?_ ?_
            rotate_left
            · intro w'
              go_simp
              with_reducible rfl
            rotate_left
            · simp only [Act.put, List.setIfInBounds_toArray, List.set_cons_zero, List.set_cons_succ, i64_w, i32_w]
              rfl
            refine pure_ (i := 1) (N := (some 97)) (v := ?_) (a' := ?_) #[true, true, false, false, false, false, false, false, false, false, false] rfl rfl (any_of HT_.out (by kernel_rfl)) (fun _ _ _ h => h) (Or.inl ⟨by rfl, ?_⟩) ?_ ?_
            rotate_left
            · intro w'
              go_simp
              with_reducible rfl
            rotate_left
            · simp only [Act.put, List.setIfInBounds_toArray, List.set_cons_zero, List.set_cons_succ, i64_w, i32_w]
              rfl
            refine pure_ (i := 3) (N := (some 99)) (v := ?_) (a' := ?_) #[true, true, false, true, false, false, false, false, false, false, false] rfl rfl (any_of HT_.out (by kernel_rfl)) (fun _ _ _ h => h) (Or.inl ⟨by rfl, ?_⟩) ?_ ?_
            rotate_left
            · intro w'
              go_simp
              with_reducible rfl
            rotate_left
            · simp only [Act.put, List.setIfInBounds_toArray, List.set_cons_zero, List.set_cons_succ, i64_w, i32_w]
              rfl
            refine pure_ (i := 5) (N := (some 101)) (v := ?_) (a' := ?_) #[true, true, false, true, false, true, false, false, false, false, false] rfl rfl (any_of HT_.out (by kernel_rfl)) (fun _ _ _ h => h) (Or.inl ⟨by rfl, ?_⟩) ?_ ?_
            rotate_left
            · intro w'
              go_simp
              with_reducible rfl
            rotate_left
            · simp only [Act.put, List.setIfInBounds_toArray, List.set_cons_zero, List.set_cons_succ, i64_w, i32_w]
              rfl
            refine pure_ (i := 7) (N := (some 103)) (v := ?_) (a' := ?_) #[true, true, false, true, false, true, false, true, false, false, false] rfl rfl (any_of HT_.out (by kernel_rfl)) (fun _ _ _ h => h) (Or.inl ⟨by rfl, ?_⟩) ?_ ?_
            rotate_left
            · intro w'
              go_simp
              with_reducible rfl
            rotate_left
            · simp only [Act.put, List.setIfInBounds_toArray, List.set_cons_zero, List.set_cons_succ, i64_w, i32_w]
              rfl
            refine take_ (i := 4) (N := (some 100)) (v := ?_) (a' := ?_) #[true, true, false, true, true, true, false, true, false, false, false] rfl rfl (take_ofW HT_.out HW_.out (by kernel_rfl)) (fun _ _ _ h => h) (Or.inl ⟨by rfl, ?_⟩) hHeld ?_ ?_
            rotate_left
            · rintro w' s0
              go_simp
              with_reducible rfl
            rotate_left
            · simp only [Act.put, List.setIfInBounds_toArray, List.set_cons_zero, List.set_cons_succ, i64_w, i32_w]
              rfl
            refine take_ (i := 6) (N := (some 102)) (v := ?_) (a' := ?_) #[true, true, false, true, true, true, true, true, false, false, false] rfl rfl (take_ofW HT_.out HW_.out (by kernel_rfl)) (fun _ _ _ h => h) (Or.inl ⟨by rfl, ?_⟩) hHeld ?_ ?_
            rotate_left
            · rintro w' s0
              go_simp
              with_reducible rfl
            rotate_left
            · simp only [Act.put, List.setIfInBounds_toArray, List.set_cons_zero, List.set_cons_succ, i64_w, i32_w]
              rfl
            refine take_ (i := 8) (N := (some 104)) (v := ?_) (a' := ?_) #[true, true, false, true, true, true, true, true, true, false, false] rfl rfl (take_ofW HT_.out HW_.out (by kernel_rfl)) (fun _ _ _ h => h) (Or.inl ⟨by rfl, ?_⟩) hHeld ?_ ?_
            rotate_left
            · rintro w' s0
              go_simp
              with_reducible rfl
            rotate_left
            · simp only [Act.put, List.setIfInBounds_toArray, List.set_cons_zero, List.set_cons_succ, i64_w, i32_w]
              rfl
            refine pure_ (i := 9) (N := (some 105)) (v := ?_) (a' := ?_) #[true, true, false, true, true, true, true, true, true, true, false] rfl rfl (any_of HT_.out (by kernel_rfl)) (fun _ _ _ h => h) (Or.inl ⟨by rfl, ?_⟩) ?_ ?_
            rotate_left
            · intro w'
              go_simp
              with_reducible rfl
            rotate_left
            · simp only [Act.put, List.setIfInBounds_toArray, List.set_cons_zero, List.set_cons_succ, i64_w, i32_w]
              rfl
            refine one_ (i := 2) (N := (some 98)) #[true, true, true, true, true, true, true, true, true, true, false] rfl rfl (one_of HT_.out (by kernel_rfl)) (by decide) (fun K hK => ?_)
            refine call_ (f := 37) #[.pointer (some ⟨g, 0, none⟩), .int .i64 x] (by rfl) rfl (by go_simp <;> rfl) ?_
            refine (CSt.out w17 HI3.out.1).mono ?_
            rintro e w18 ⟨rfl, hb⟩
            refine ⟨_, rfl, ?_⟩
            have HI4 := Aside0.mk (And.intro (HI3.out.1.step hb) (HI3.out.2.step hb))
            have HS7 := Aside0.mk (blk_below HS8.out hb)
            clear hb
            refine hK.out _ _ (fun i => blk_cell HS7.out i) (fun hHeld => ?_)
            clear hK K
            refine norm_ (a' := ?_) ?_ ?_
            rotate_left
            · show Act.put _ (some 98) _ = _
              simp only [Act.put, List.setIfInBounds_toArray, List.set_cons_zero, List.set_cons_succ, i64_w, i32_w]
              rfl
            refine pure_ (i := 10) (N := (some 106)) (v := ?_) (a' := ?_) #[true, true, true, true, true, true, true, true, true, true, true] rfl rfl (any_of HT_.out (by kernel_rfl)) (fun _ _ _ h => h) (Or.inl ⟨by rfl, ?_⟩) ?_ ?_
            rotate_left
            · intro w'
              go_simp
              with_reducible rfl
            rotate_left
            · simp only [Act.put, List.setIfInBounds_toArray, List.set_cons_zero, List.set_cons_succ, i64_w, i32_w]
              rfl
            refine done_ (done_of HT_.out (by kernel_rfl)) ?_
            clear hHeld
            go_wp2
            go_roundw
            case rel => exact ⟨x + 1, by first | rw [hxx] | simp, by omega, by have := HXX.out; omega, HI4⟩
            case measure => have := HXX.out; first | (rw [hxx]; simp [intOf]; omega) | (simp [intOf]; omega)
          · have u1 : decide (x ≤ (L2.length : Int)) = false := decide_eq_false hx
            go_wp2
            go_roundw
            case rel => exact ⟨n + 1, clk', F', A9, cap9, L2, by omega, by first | rw [hnn] | simp, HI⟩
            case measure => first | (rw [hnn]; simp [intOf]; omega) | (simp [intOf]; omega)
    · have q0 : decide ((n : Int) < (l1.length : Int)) = false := decide_eq_false (by omega)
      go_wp2
      go_ret
      exact ⟨rfl, HL.out.1.below⟩
end Go.Proofs.Ythljanmfanppdaa.Bk

namespace Go.Proofs.Ythljanmfanppdaa.KLa
open Go.RowKit Go.Proofs.YthljanmfanppdaaW.PrintWords Go.Proofs.Ythljanmfanppdaa.Bk
/-- What the law answers; said only where connections' numbers fit. -/
def knelllaw24_LinkPlays.f (c0 c1 c2 c3 c4 c5 c6 c7 c8 c9 c10 c11 c12 : Int) (l1 : List S54) (l2 : List Int) : Option Bool := if ∀ x ∈ l1, (Lit.int .i64 x.f3).wf = true then some true else none
theorem rd_wf {l : List S54} (h : ∀ x ∈ l, (Lit.int .i64 x.f3).wf = true) (i : Int) : (Lit.int .i64 (rd_T54 l i).f3).wf = true := by
  unfold rd_T54
  by_cases hi : i.toNat < l.length
  · rw [List.getD_eq_getElem?_getD, List.getElem?_eq_getElem hi]
    exact h _ (List.getElem_mem hi)
  · rw [List.getD_eq_getElem?_getD, List.getElem?_eq_none (by omega)]
    decide
theorem knelllaw24_LinkPlays.calls (c0 c1 c2 c3 c4 c5 c6 c7 c8 c9 c10 c11 c12 : Int) (A1 : Option Addr) (q1 : Nat) (l1 : List S54) (A2 : Option Addr) (q2 : Nat) (l2 : List Int) (r : Bool) (w : World) (hr1 : Kd.C k54 w A1 l1.length l1) (hc1 : l1.length ≤ q1) (hr2 : Kd.C (Kd.int .i64) w A2 l2.length l2) (hc2 : l2.length ≤ q2)
    (h : knelllaw24_LinkPlays.f c0 c1 c2 c3 c4 c5 c6 c7 c8 c9 c10 c11 c12 l1 l2 = some r) :
    Calls Try.prog 10 #[.agg #[.int .i64 c0, .int .i64 c1, .int .i64 c2, .int .i64 c3, .int .i64 c4, .int .i64 c5, .int .i64 c6, .int .i64 c7, .int .i64 c8, .int .i64 c9, .int .i64 c10, .int .i64 c11, .int .i64 c12], .slice A1 l1.length q1, .slice A2 l2.length q2] w fun e w' => e = .returned (.bool r) ∧ Below w.heap.size w w' := by
  unfold knelllaw24_LinkPlays.f at h
  split at h
  · rename_i hw
    obtain rfl := Option.some.inj h
    rcases Nat.lt_or_ge 60 l1.length with hn | hn
    · exact plays_long ⟨c0, c1, c2, c3, c4, c5, c6, c7, c8, c9, c10, c11, c12⟩ A1 _ q1 A2 _ q2 hn w
    · by_cases hc : cfCode ⟨c0, c1, c2, c3, c4, c5, c6, c7, c8, c9, c10, c11, c12⟩ = 0
      · exact plays_main ⟨c0, c1, c2, c3, c4, c5, c6, c7, c8, c9, c10, c11, c12⟩ A1 q1 l1 A2 q2 l2 hn hc w hr1 hr2 (rd_wf hw)
      · exact plays_wrong ⟨c0, c1, c2, c3, c4, c5, c6, c7, c8, c9, c10, c11, c12⟩ A1 _ q1 A2 _ q2 hn hc w
  · cases h
theorem LinkPlays (c0 c1 c2 c3 c4 c5 c6 c7 c8 c9 c10 c11 c12 : Int) (l1 : List S54) (l2 : List Int) (hw : ∀ x ∈ l1, (Lit.int .i64 x.f3).wf = true) : knelllaw24_LinkPlays.f c0 c1 c2 c3 c4 c5 c6 c7 c8 c9 c10 c11 c12 l1 l2 = some true := if_pos hw
end Go.Proofs.Ythljanmfanppdaa.KLa
