/- What is proved: audit.read makes the story of a history; events' numbers fit into 64 bits. -/
import Derived.Test.YthniclbmpeklmaaAuT
import Derived.Test.YthniclbmpeklmaaAuA
import Derived.Test.YthniclbmpeklmaaEvJ
import Derived.Deep.LoopGhost
namespace Go.Proofs.Ythniclbmpeklmaa.Au
open Go.RowKit Go.Maps Go.Proofs.YthniclbmpeklmaaW.PrintWords Go.Proofs.YthniclbmpeklmaaW.PrintLast Go.Proofs.YthniclbmpeklmaaW.PrintMore Go.Proofs.Ythniclbmpeklmaa.Mp
set_option linter.unusedVariables false
set_option linter.unusedSimpArgs false
def rightE (e : Ev) : Bool := Ev.evRight e.k e.wk e.op e.hn e.hg e.nn e.ng e.t e.a e.u e.y e.er
/-- An event as the story tells it. -/
def clE (e : Ev) : Ev := if rightE e = true then e else zeroE
def gOf (l : List Ev) (i : Nat) : Ev := clE (l.getD i zeroE)
def wfE (e : Ev) : Prop := (Lit.int .i64 e.wk).wf = true ∧ (Lit.int .i64 e.hn).wf = true ∧ (Lit.int .i64 e.hg).wf = true ∧ (Lit.int .i64 e.nn).wf = true ∧ (Lit.int .i64 e.ng).wf = true
theorem right_kind {e : Ev} (h : rightE e = true) : e.k = 1 ∨ e.k = 2 ∨ e.k = 3 ∨ e.k = 4 ∨ e.k = 5 := by
  unfold rightE Ev.evRight Ev.kindB at h
  simp only [Bool.and_eq_true, Bool.or_eq_true, beq_iff_eq] at h
  omega
/-- Element i of a slice of events that came in. -/
def EvAt (w : World) (A : Option Addr) (i : Nat) (e : Ev) : Prop := ∃ ad, A = some ad ∧ w.cell? (ad.add (i * 12)) = some (.int .i64 e.k) ∧ w.cell? ⟨(ad.add (i * 12)).block, (ad.add (i * 12)).off + 1, none⟩ = some (.int .i64 e.wk) ∧ w.cell? ⟨(ad.add (i * 12)).block, (ad.add (i * 12)).off + 2, none⟩ = some (.int .i64 e.op) ∧
  w.cell? ⟨(ad.add (i * 12)).block, (ad.add (i * 12)).off + 3, none⟩ = some (.int .i64 e.hn) ∧ w.cell? ⟨(ad.add (i * 12)).block, (ad.add (i * 12)).off + 4, none⟩ = some (.int .i64 e.hg) ∧ w.cell? ⟨(ad.add (i * 12)).block, (ad.add (i * 12)).off + 5, none⟩ = some (.int .i64 e.nn) ∧ w.cell? ⟨(ad.add (i * 12)).block, (ad.add (i * 12)).off + 6, none⟩ = some (.int .i64 e.ng) ∧
  w.cell? ⟨(ad.add (i * 12)).block, (ad.add (i * 12)).off + 7, none⟩ = some (.int .i64 e.t) ∧ w.cell? ⟨(ad.add (i * 12)).block, (ad.add (i * 12)).off + 8, none⟩ = some (.int .i64 e.a) ∧ w.cell? ⟨(ad.add (i * 12)).block, (ad.add (i * 12)).off + 9, none⟩ = some (.int .i64 e.u) ∧ w.cell? ⟨(ad.add (i * 12)).block, (ad.add (i * 12)).off + 10, none⟩ = some (.bool e.y) ∧
  w.cell? ⟨(ad.add (i * 12)).block, (ad.add (i * 12)).off + 11, none⟩ = some (.int .i64 e.er)
theorem EvAt.below {w w1 : World} {A : Option Addr} {i : Nat} {e : Ev} (h : EvAt w A i e) (hb : Below w.heap.size w w1) : EvAt w1 A i e := by
  obtain ⟨ad, hA, h0, h1, h2, h3, h4, h5, h6, h7, h8, h9, h10, h11⟩ := h
  exact ⟨ad, hA, pw_cell_below hb h0, pw_cell_below hb h1, pw_cell_below hb h2, pw_cell_below hb h3, pw_cell_below hb h4, pw_cell_below hb h5, pw_cell_below hb h6, pw_cell_below hb h7, pw_cell_below hb h8, pw_cell_below hb h9, pw_cell_below hb h10, pw_cell_below hb h11⟩
theorem erun (e : Ev) (W : World) : Calls Try.prog 65 #[.agg (evA e)] W fun r w' => r = .returned (.bool (rightE e)) ∧ Below W.heap.size W w' := Ev.event_right e.k e.wk e.op e.hn e.hg e.nn e.ng e.t e.a e.u e.y e.er W
/-- A story in memory, on the way. -/
structure Rd (w W : World) (b m1 m2 k : Nat) (s : Story) (vl vv vc : Value) : Prop where
  st : StIs W w.heap.size b k s vl vv vc m1 m2
  below : Below w.heap.size w W
/-- .. and an event's block. -/
structure Re (w W : World) (b m1 m2 k : Nat) (s : Story) (vl vv vc : Value) (eb : Nat) (e : Ev) : Prop where
  rd : Rd w W b m1 m2 k s vl vv vc
  ev : W.heap[eb]? = some (.cells (evA e) 54 (0, 0))
  eg : w.heap.size ≤ eb
  en : vl.ownBlock ≠ some eb
section
variable {w W W1 : World} {b m1 m2 k eb : Nat} {s : Story} {vl vv vc : Value} {e : Ev}
theorem Rd.step (h : Rd w W b m1 m2 k s vl vv vc) (hb : Below W.heap.size W W1) : Rd w W1 b m1 m2 k s vl vv vc := ⟨h.st.below hb, below_step h.below hb⟩
theorem Re.step (h : Re w W b m1 m2 k s vl vv vc eb e) (hb : Below W.heap.size W W1) : Re w W1 b m1 m2 k s vl vv vc eb e := ⟨h.rd.step hb, blk_below h.ev hb, h.eg, h.en⟩
theorem Re.alloc (h : Re w W b m1 m2 k s vl vv vc eb e) (o : Obj) : Re w (W.alloc o) b m1 m2 k s vl vv vc eb e := h.step (below_alloc (Below.refl _ _) o)
theorem Re.drew (h : Re w W b m1 m2 k s vl vv vc eb e) : Re w W.drew b m1 m2 k s vl vv vc eb e := h.step (Below.drew (Below.refl _ _))
theorem Re.drewN (h : Re w W b m1 m2 k s vl vv vc eb e) (q : Nat) : Re w (W.drewN q) b m1 m2 k s vl vv vc eb e := h.step (pw_below_drewN (Below.refl _ _) q)
theorem Re.cells (h : Re w W b m1 m2 k s vl vv vc eb e) : (∀ i, W.cell? ⟨b, i, none⟩ = (stA vl vv vc m1 m2)[i]?) ∧ (∀ i, W.cell? ⟨eb, i, none⟩ = (evA e)[i]?) ∧ (∀ i, W.frozen? ⟨b, i, none⟩ = false) := ⟨fun i => h.rd.st.cell i, fun i => blk_cell h.ev i, fun i => blk_frozen h.rd.st.blk i⟩
theorem Rd.start (h : Rd w W b m1 m2 k s vl vv vc) (e : Ev) : Re w (W.alloc (.cells (evA e) 54)) b m1 m2 k s vl vv vc W.heap.size e :=
  ⟨h.step (below_alloc (Below.refl _ _) _), blk_new _ _, by have := h.below.size; exact this, fun q => by obtain ⟨c, hc⟩ := h.st.rl.own q; have := blk_lt hc; omega⟩
theorem Rd.app_l {x : Ev} {g cap : Nat} (h : Rd w W b m1 m2 k s vl vv vc) (hown : RowIs W1 w.heap.size 54 12 evA (.slice (some ⟨g, 0, none⟩) (s.l.length + 1) cap) (s.l ++ [x])) (hg : W.grownBy W1 vl.ownBlock) :
    W1.heap[b]? = some (.cells (stA vl vv vc m1 m2) 97 (0, 0)) ∧ Rd w (W1.setCell ⟨b, 0, none⟩ (.slice (some ⟨g, 0, none⟩) (s.l.length + 1) cap)) b m1 m2 k { s with l := s.l ++ [x] } (.slice (some ⟨g, 0, none⟩) (s.l.length + 1) cap) vv vc := by
  obtain ⟨h1, h2⟩ := h.st.app_l hown hg
  refine ⟨h1, h2, Below.setCell (h.below.grown hg h.below.size (fun j hj => (h.st.rl.lt j hj).1)) h.st.hb _⟩
theorem Re.app_l {x : Ev} {g cap : Nat} (h : Re w W b m1 m2 k s vl vv vc eb e) (hown : RowIs W1 w.heap.size 54 12 evA (.slice (some ⟨g, 0, none⟩) (s.l.length + 1) cap) (s.l ++ [x])) (hg : W.grownBy W1 vl.ownBlock) (hat : vl.ownBlock = some g ∨ g = W.heap.size) :
    ((∀ i, W1.cell? ⟨b, i, none⟩ = (stA vl vv vc m1 m2)[i]?) ∧ (∀ i, W1.cell? ⟨eb, i, none⟩ = (evA e)[i]?) ∧ (∀ i, W1.frozen? ⟨b, i, none⟩ = false)) ∧ Re w (W1.setCell ⟨b, 0, none⟩ (.slice (some ⟨g, 0, none⟩) (s.l.length + 1) cap)) b m1 m2 k { s with l := s.l ++ [x] } (.slice (some ⟨g, 0, none⟩) (s.l.length + 1) cap) vv vc eb e := by
  obtain ⟨h1, h2⟩ := h.rd.app_l hown hg
  have he : W1.heap[eb]? = some (.cells (evA e) 54 (0, 0)) := blk_grown h.ev hg (fun q => h.en q.symm)
  refine ⟨⟨fun i => blk_cell h1 i, fun i => blk_cell he i, fun i => blk_frozen h1 i⟩, h2, blk_far he (types_ne h1 he (by decide)).symm _, h.eg, fun q => ?_⟩
  have q' : g = eb := by simpa [Value.ownBlock] using q
  rcases hat with r | r
  · exact h.en (by rw [r, q'])
  · have := blk_lt h.ev; omega
theorem Re.app_c {x : Cl} {g cap : Nat} (h : Re w W b m1 m2 k s vl vv vc eb e) (hown : RowIs W1 w.heap.size 103 15 clA (.slice (some ⟨g, 0, none⟩) (s.calls.length + 1) cap) (s.calls ++ [x])) (hg : W.grownBy W1 vc.ownBlock) :
    ((∀ i, W1.cell? ⟨b, i, none⟩ = (stA vl vv vc m1 m2)[i]?) ∧ (∀ i, W1.cell? ⟨eb, i, none⟩ = (evA e)[i]?) ∧ (∀ i, W1.frozen? ⟨b, i, none⟩ = false)) ∧ Rd w (W1.setCell ⟨b, 3, none⟩ (.slice (some ⟨g, 0, none⟩) (s.calls.length + 1) cap)) b m1 m2 k { s with calls := s.calls ++ [x] } vl vv (.slice (some ⟨g, 0, none⟩) (s.calls.length + 1) cap) := by
  obtain ⟨h1, h2⟩ := h.rd.st.app_c hown hg
  have he : W1.heap[eb]? = some (.cells (evA e) 54 (0, 0)) := blk_grown h.ev hg (fun q => by obtain ⟨c, hc⟩ := h.rd.st.rc.own q.symm; exact types_ne h.ev hc (by decide) rfl)
  exact ⟨⟨fun i => blk_cell h1 i, fun i => blk_cell he i, fun i => blk_frozen h1 i⟩, h2, Below.setCell (h.rd.below.grown hg h.rd.below.size (fun j hj => (h.rd.st.rc.lt j hj).1)) h.rd.st.hb _⟩
theorem Re.sto_o {f' : Int → Option Nat} {z' : Nat} (h : Re w W b m1 m2 k s vl vv vc eb e) (hm : MapIs (Value.int .i64) Try.prog 3 W1 m2 z' (nV f')) (hz : z' ≤ k + 1) (hg : W.grownBy W1 (some m2)) : Re w W1 b m1 m2 (k + 1) { s with opn := f' } vl vv vc eb e := by
  obtain ⟨z2, hz2, hm2⟩ := h.rd.st.mo
  obtain ⟨_, _, q2⟩ := hm2.block
  exact ⟨⟨h.rd.st.sto_o hm hz hg, h.rd.below.grown hg h.rd.below.size (fun j hj => by cases hj; exact h.rd.st.h2)⟩, blk_grown h.ev hg (fun q => map_ne h.ev q2 (Option.some.inj q)), h.eg, h.en⟩
theorem Rd.put_c {g cap j : Nat} {q : Cl} (i : Int) (h : Rd w W b m1 m2 k s vl vv (.slice (some ⟨g, 0, none⟩) s.calls.length cap)) (hq : s.calls[j]? = some q) :
    Rd w (W.setCell ⟨g, j * 15 + 14, none⟩ (.int .i64 i)) b m1 m2 k { s with calls := s.calls.set j { q with en := i } } vl vv (.slice (some ⟨g, 0, none⟩) s.calls.length cap) :=
  ⟨h.st.put_c i hq, Below.setCell h.below ((h.st.rc.lt g rfl).1) _⟩
theorem Rd.up (h : Rd w W b m1 m2 k s vl vv vc) {k' : Nat} (hk : k ≤ k') : Rd w W b m1 m2 k' s vl vv vc := ⟨h.st.up hk, h.below⟩
theorem Re.look (h : Re w W b m1 m2 k s vl vv vc eb e) {x : Int} (hx : (Lit.int .i64 x).wf = true) (W' : World) (hb : W'.heap[m2]? = W.heap[m2]?) :
    (Instr.lookup 95 (.map (some m2)) (.int .i64 x) true).run Try.prog W' = .ok (.tuple #[.int .i64 (((s.opn x).map (fun j => (j : Int))).getD 0), .bool (s.opn x).isSome]) W' := by
  obtain ⟨z, hz, hm⟩ := h.rd.st.mo
  exact look_o hm hx W' hb
end
/-- One event on. -/
theorem step_one {s : Story} {clk : Int} {i : Nat} {e : Ev} (h : e.k = 1) : stepF s clk i e = { s with l := s.l ++ [e] } := by unfold stepF; simp only [if_pos h]
theorem step_none {s : Story} {clk : Int} {i : Nat} {e : Ev} (h : e.k = 0) : stepF s clk i e = { s with l := s.l ++ [e] } := by unfold stepF; simp only [h]; rw [if_neg (by decide), if_neg (by decide), if_neg (by decide), if_neg (by decide)]
theorem step_two {s : Story} {clk : Int} {i : Nat} {e : Ev} (h : e.k = 2) : stepF s clk i e = { s with l := s.l ++ [e], opn := updW s.opn e.wk s.calls.length, calls := s.calls ++ [⟨e, i, clk, -1⟩] } := by unfold stepF; simp [h]
theorem step_five {s : Story} {clk : Int} {i : Nat} {e : Ev} (h : e.k = 5) : stepF s clk i e = backF { s with l := s.l ++ [e] } i e := by unfold stepF; simp [h]
theorem step_turn {s : Story} {clk : Int} {i : Nat} {e : Ev} (h : e.k = 3 ∨ e.k = 4) : stepF s clk i e = turnF { s with l := s.l ++ [e] } i e := by unfold stepF; simp only []; rw [if_neg (by omega), if_neg (by omega), if_neg (by omega), if_pos h]
theorem back_none {s : Story} {i : Nat} {e : Ev} (h : s.opn e.wk = none) : backF s i e = s := by unfold backF; rw [h]
theorem back_set {s : Story} {i j : Nat} {e : Ev} {q : Cl} (h : s.opn e.wk = some j) (hq : s.calls[j]? = some q) (hc : q.e.op = e.op ∧ q.en < 0) : backF s i e = { s with calls := s.calls.set j { q with en := i } } := by unfold backF; simp only [h, hq]; rw [if_pos hc]
theorem back_keep {s : Story} {i j : Nat} {e : Ev} {q : Cl} (h : s.opn e.wk = some j) (hq : s.calls[j]? = some q) (hc : ¬ (q.e.op = e.op ∧ q.en < 0)) : backF s i e = s := by unfold backF; simp only [h, hq]; rw [if_neg hc]
theorem clk_one {g : Nat → Ev} {n : Nat} (h : (g n).k = 1) : clkN g (n + 1) = (g n).t := by unfold clkN; rw [if_pos h]
theorem clk_not {g : Nat → Ev} {n : Nat} (h : (g n).k ≠ 1) : clkN g (n + 1) = clkN g n := by rw [clkN, if_neg h]
def ReadPost (l : List Ev) (w : World) (r : Ending) (w' : World) : Prop := ∃ b m1 m2 vl vv vc, r = .returned (.pointer (some ⟨b, 0, none⟩)) ∧ StIs w' w.heap.size b l.length (storyN (gOf l) l.length) vl vv vc m1 m2 ∧ Below w.heap.size w w'
theorem g_at {l : List Ev} {k : Nat} {e : Ev} (h : l[k]? = some e) : gOf l k = clE e := by unfold gOf; rw [List.getD_eq_getElem?_getD, h]; rfl
theorem calls_len (g : Nat → Ev) (k n : Nat) (hn : n ≤ 1000000) (hk : k ≤ n) : (storyN g k).calls.length ≤ 1000000 := by
  have : ∀ m, (storyN g m).calls.length ≤ m := by
    intro m
    induction m with
    | zero => exact Nat.le_refl _
    | succ m ih =>
      show (stepF (storyN g m) (clkN g m) m (g m)).calls.length ≤ m + 1
      unfold stepF
      simp only []
      split
      · exact Nat.le_succ_of_le ih
      split
      · simp; exact ih
      split
      · unfold backF
        split
        · exact Nat.le_succ_of_le ih
        · split
          · exact Nat.le_succ_of_le ih
          · split
            · simp; omega
            · exact Nat.le_succ_of_le ih
      split
      · unfold turnF
        rw [(turn2_c _ _ _).1, (turn1_c _ _ _).1]
        exact Nat.le_succ_of_le ih
      · exact Nat.le_succ_of_le ih
  have := this k
  omega
theorem lives_len (g : Nat → Ev) (k n : Nat) (hn : n ≤ 1000000) (hk : k ≤ n) : (storyN g k).lives.length ≤ 1000000 := by
  have t1 : ∀ (s : Story) i e, (turn1 s i e).lives.length = s.lives.length := fun s i e => by
    unfold turn1
    split
    · rfl
    · split
      · rfl
      · split
        · simp
        · rfl
  have t2 : ∀ (s : Story) i e, (turn2 s i e).lives.length ≤ s.lives.length + 1 := fun s i e => by
    unfold turn2
    split
    · omega
    · split
      · omega
      · simp
  have : ∀ m, (storyN g m).lives.length ≤ m := by
    intro m
    induction m with
    | zero => exact Nat.le_refl _
    | succ m ih =>
      show (stepF (storyN g m) (clkN g m) m (g m)).lives.length ≤ m + 1
      unfold stepF
      simp only []
      split
      · exact Nat.le_succ_of_le ih
      split
      · exact Nat.le_succ_of_le ih
      split
      · rw [(backF_c _ _ _).1]
        exact Nat.le_succ_of_le ih
      split
      · unfold turnF
        have h1 := t2 (turn1 { storyN g m with l := (storyN g m).l ++ [g m] } m (g m)) m (g m)
        rw [t1] at h1
        have h2 : (storyN g m).lives.length ≤ m := ih
        exact Nat.le_trans h1 (Nat.succ_le_succ h2)
      · exact Nat.le_succ_of_le ih
  have := this k
  omega
def readR.T8 : Bool × List (List Nat × List Nat) := (true, [([], []), ([], []), ([1], [1]), ([2], [2]), ([3], [3]), ([], []), ([5], [5]), ([4, 6], [4, 6]), ([0, 0, 1, 2, 3, 4, 5, 6, 7], [0]), ([8, 0, 1, 2, 3, 4, 5, 6, 7], [8]), ([9, 7, 7, 0, 1, 2, 3, 4, 5, 6, 7], [7, 9])])
def readR.B8 : List Nat := [0, 0, 2, 6, 14, 0, 32, 126, 255, 511, 1023]
theorem readR.tab8 : rtab .any (opsOf Try.f47 8) = readR.T8 := by kernel_rfl
theorem readR.bits8 : waitsOk readR.T8.2 readR.B8 = true := by kernel_rfl
def readR.T15 : Bool × List (List Nat × List Nat) := (true, [([], []), ([], []), ([1], [1]), ([2], [2]), ([3], [3]), ([], []), ([], []), ([], []), ([5, 6, 7], [5, 6, 7]), ([8], [8]), ([4, 9], [4, 9]), ([0, 0, 1, 2, 3, 4, 5, 6, 7, 8, 9, 10], [0]), ([11, 0, 1, 2, 3, 4, 5, 6, 7, 8, 9, 10], [11]), ([12, 10, 10, 0, 1, 2, 3, 4, 5, 6, 7, 8, 9, 10], [10, 12])])
def readR.B15 : List Nat := [0, 0, 2, 6, 14, 0, 0, 0, 224, 480, 1022, 2047, 4095, 8191]
theorem readR.tab15 : rtab .any (opsOf Try.f47 15) = readR.T15 := by kernel_rfl
theorem readR.bits15 : waitsOk readR.T15.2 readR.B15 = true := by kernel_rfl
set_option maxHeartbeats 20000000 in
set_option maxRecDepth 100000 in
theorem read_any (A1 : Option Addr) (c1 : Nat) (l : List Ev) (hn : l.length ≤ 1000000) (w : World) (hin : ∀ (i : Nat) e, l[i]? = some e → EvAt w A1 i e) (hwf : ∀ e ∈ l, wfE e) :
    Calls Try.prog 47 #[.slice A1 l.length c1] w (ReadPost l w) := by
  have hu97 := Try.underlying97
  have hu54 := Try.underlying54
  have hu34 := Try.underlying34
  have hu103 := Try.underlying103
  have hmm := @run_makeMap Try.prog
  have HIN := Aside0.mk hin
  have HWF := Aside0.mk hwf
  have HN := Aside0.mk hn
  clear hin hwf hn
  go_enter Try.func47, Try.ntmps47
  go_wp2
  obtain ⟨b, hb⟩ : ∃ b, b = w.heap.size + 1 + 1 := ⟨_, rfl⟩
  obtain ⟨m1, hm1⟩ : ∃ m1, m1 = w.heap.size := ⟨_, rfl⟩
  obtain ⟨m2, hm2⟩ : ∃ m2, m2 = w.heap.size + 1 := ⟨_, rfl⟩
  have HS0 : Aside0 (Rd w (((w.alloc (.map #[] 0)).alloc (.map #[] 0)).alloc (.cells (stA (.slice none 0 0) (.slice none 0 0) (.slice none 0 0) m1 m2) 97)) b m1 m2 0 story0 (.slice none 0 0) (.slice none 0 0) (.slice none 0 0)) := ⟨by
    subst hb hm1 hm2
    have q1 := (MapIs.made (c := haV) w Try.prog 34).move (w' := ((w.alloc (.map #[] 0)).alloc (.map #[] 0)).alloc (.cells (stA (.slice none 0 0) (.slice none 0 0) (.slice none 0 0) w.heap.size (w.heap.size + 1)) 97)) (by rw [Below.heap_alloc _ _ _ (by simp; omega), Below.heap_alloc _ _ _ (by simp)])
    have q2 := (MapIs.made (c := Value.int .i64) (w.alloc (.map #[] 0)) Try.prog 3).move (w' := ((w.alloc (.map #[] 0)).alloc (.map #[] 0)).alloc (.cells (stA (.slice none 0 0) (.slice none 0 0) (.slice none 0 0) w.heap.size (w.heap.size + 1)) 97)) (by rw [Below.heap_alloc _ _ _ (by simp)])
    refine ⟨⟨by simpa using blk_new ((w.alloc (.map #[] 0)).alloc (.map #[] 0)) (.cells (stA (.slice none 0 0) (.slice none 0 0) (.slice none 0 0) w.heap.size (w.heap.size + 1)) 97), RowIs.nil _ _ _ _ _, RowIs.nil _ _ _ _ _, RowIs.nil _ _ _ _ _, ⟨0, Nat.le_refl _, q1⟩, ⟨0, Nat.le_refl _, by have q := q2; rw [show (w.alloc (.map #[] 0)).heap.size = w.heap.size + 1 by simp] at q; exact q⟩, by omega, by omega, by omega, by omega⟩, below_alloc (below_alloc (below_alloc (Below.refl _ _) _) _) _⟩⟩
  rw [← hb, ← hm2, ← hm1]
  clear hb hm1 hm2
  go_loopw [4, 15] (fun vc0 i wr => ∃ k : Nat, k ≤ l.length ∧ i = .int .i64 k ∧ vc0 = .int .i64 (clkN (gOf l) k) ∧ Aside0 (∃ vl vv vc, Rd w wr b m1 m2 k (storyN (gOf l) k) vl vv vc)) (fun _ i _ => l.length - (intOf i).toNat)
  case atStart => exact ⟨0, by omega, rfl, rfl, ⟨_, _, _, HS0.out⟩⟩
  case round =>
    clear HS0
    obtain ⟨k, hk, rfl, rfl, HS⟩ := hrel
    rcases Nat.lt_or_ge k l.length with hlt | hge
    · have p0 : (0 : Int) ≤ (k : Int) := by omega
      have q0 : (k : Int) < (l.length : Int) := by omega
      obtain ⟨e, he⟩ : ∃ e, l[k]? = some e := ⟨_, List.getElem?_eq_getElem hlt⟩
      obtain ⟨vl, vv, vc, hS⟩ := HS.out
      clear HS
      have hgk := g_at he
      have HW := Aside0.mk (HWF.out e (get_mem he))
      obtain ⟨ad, rfl, c0, c1', c2, c3', c4, c5, c6, c7, c8, c9, c10, c11⟩ := (HIN.out k e he).below hS.below
      obtain ⟨A3, c3, rfl, hc3⟩ := hS.st.rc.form
      have hnn : wrap64 ((k : Int) + 1) = ((k + 1 : Nat) : Int) := by have := HN.out; unfold wrap64; omega
      have INV := Aside0.mk (inv_all (gOf l) k (by have := HN.out; unfold noEnd; omega))
      have HGK := Aside0.mk hgk
      have HST := Aside0.mk (show storyN (gOf l) (k + 1) = stepF (storyN (gOf l) k) (clkN (gOf l) k) k (clE e) by rw [← hgk]; rfl)
      clear hgk
      have HLL := Aside0.mk (show (storyN (gOf l) k).l.length ≤ 1000000 by rw [INV.out.len]; have := HN.out; omega)
      have HLC : Aside0 ((storyN (gOf l) k).calls.length ≤ 1000000) := ⟨calls_len _ _ _ HN.out hk⟩
      have HLV : Aside0 ((storyN (gOf l) k).lives.length ≤ 1000000) := ⟨lives_len _ _ _ HN.out hk⟩
      have HAT : Aside0 (∀ h j, (storyN (gOf l) k).at_ h = some j → ∃ x, (storyN (gOf l) k).lives[j]? = some x) := ⟨fun h j q => by obtain ⟨x, hx, _⟩ := INV.out.v.at1 h j q; exact ⟨x, hx⟩⟩
      have HOP : Aside0 (∀ x j, (storyN (gOf l) k).opn x = some j → ∃ q, (storyN (gOf l) k).calls[j]? = some q) := ⟨fun x j q => by obtain ⟨y, _, hy, _⟩ := INV.out.c.open1 x j q; exact ⟨y, hy⟩⟩
      have HH := Aside0.mk (hS.start e)
      have HSS := Aside0.mk hS
      generalize hs : storyN (gOf l) k = s at HH HSS HST HLL HLC HLV HAT HOP INV
      clear hs hS he hc3 INV
      have CR := Aside0.mk (fun W => erun e W)
      replace q0 := eq_true q0
      replace p0 := eq_true p0
      cases hr : rightE e with
      | false =>
        rw [hr] at CR
        have hz : clE e = zeroE := by unfold clE; rw [hr]; rfl
        rw [hz] at HST
        have HF := Aside0.mk (HST.out.trans (step_none rfl))
        have HCK := Aside0.mk (show clkN (gOf l) (k + 1) = clkN (gOf l) k from clk_not (by rw [HGK.out, hz]; decide))
        clear hr hz HST
        go_wp2_with (first
          | (go_at_call 65; (with_reducible refine (CR.out _).mono ?_); rintro r w2 ⟨rfl, hb⟩; have HR2 := Aside0.mk (HH.out.step hb); have hlt2 := HR2.out.rd.st.lt; have hc := fun i => HR2.out.rd.st.cell i; clear hb)
          | (at_builtin; refine RowIs.append_wpl (by rfl) 24 96 _ _ _ Try.underlying24 ev_info rfl (by decide) rfl HR2.out.rd.st.rl zeroE rfl (by simp [Value.oneCell', zeroE]) (by rfl) (by rfl) HLL.out (by decide) HR2.out.rd.below.size ?_; intro gg cap6 w6 hown hgrow hat; have HP := Aside0.mk ((HR2.out.alloc _).app_l hown hgrow (by simpa using hat)); have hc6 := HP.out.1.1; have hf6 := HP.out.1.2.2; clear hown hgrow hat))
        go_roundw
        case rel => exact ⟨k + 1, by omega, by first | rw [hnn] | simp, by rw [HCK.out], ⟨_, _, _, HF.out ▸ HP.out.2.rd.up (Nat.le_succ k)⟩⟩
        case measure => first | (rw [hnn]; simp [intOf]; omega) | (simp [intOf]; omega)
      | true =>
        rw [hr] at CR
        have hz : clE e = e := by unfold clE; rw [hr]; rfl
        rw [hz] at HST
        have HCG := Aside0.mk (HGK.out.trans hz)
        have hkind := right_kind hr
        clear hr hz HGK
        go_upto_region 8 with (go_at_call 65; (with_reducible refine (CR.out _).mono ?_); rintro r w2 ⟨rfl, hb⟩; have HR2 := Aside0.mk (HH.out.step hb); clear hb)
        refine start_ (n := 11) (S := (fun w' => (∀ i, w'.cell? ⟨b, i, none⟩ = (stA vl vv (.slice A3 s.calls.length c3) m1 m2)[i]?) ∧ (∀ i, w'.cell? ⟨wr.heap.size, i, none⟩ = (evA e)[i]?) ∧ (∀ i, w'.frozen? ⟨b, i, none⟩ = false))) (ds := [10]) #[false, false, false, false, false, false, false, false, false, false, false] (by kernel_rfl) rfl rfl HR2.out.drew.cells (fun hHeld => ?_)
        refine with_tabW readR.tab8 readR.bits8 (fun HT_ HW_ => ?_)
        have HR3 := Aside0.mk HR2.out.drew
        generalize w2.drew = w3 at HR3 hHeld ⊢
        have hlt3 := HR3.out.rd.st.lt
        refine pure_ (i := 0) (N := (some 33)) (v := ?_) (a' := ?_) #[true, false, false, false, false, false, false, false, false, false, false] rfl rfl (any_of HT_.out (by kernel_rfl)) (fun _ _ _ h => h) (Or.inl ⟨by rfl, ?_⟩) ?_ ?_
        rotate_left
        · intro w'
          go_simp
          with_reducible rfl
        rotate_left
        · simp only [Act.put, List.setIfInBounds_toArray, List.set_cons_zero, List.set_cons_succ, i64_w, i32_w]
          rfl
        refine pure_ (i := 1) (N := (some 34)) (v := ?_) (a' := ?_) #[true, true, false, false, false, false, false, false, false, false, false] rfl rfl (any_of HT_.out (by kernel_rfl)) (fun _ _ _ h => h) (Or.inl ⟨by rfl, ?_⟩) ?_ ?_
        rotate_left
        · intro w'
          go_simp
          with_reducible rfl
        rotate_left
        · simp only [Act.put, List.setIfInBounds_toArray, List.set_cons_zero, List.set_cons_succ, i64_w, i32_w]
          rfl
        refine pure_ (i := 2) (N := (some 35)) (v := ?_) (a' := ?_) #[true, true, true, false, false, false, false, false, false, false, false] rfl rfl (any_of HT_.out (by kernel_rfl)) (fun _ _ _ h => h) (Or.inl ⟨by rfl, ?_⟩) ?_ ?_
        rotate_left
        · intro w'
          go_simp
          with_reducible rfl
        rotate_left
        · simp only [Act.put, List.setIfInBounds_toArray, List.set_cons_zero, List.set_cons_succ, i64_w, i32_w]
          rfl
        refine pure_ (i := 3) (N := (some 36)) (v := ?_) (a' := ?_) #[true, true, true, true, false, false, false, false, false, false, false] rfl rfl (any_of HT_.out (by kernel_rfl)) (fun _ _ _ h => h) (Or.inl ⟨by rfl, ?_⟩) ?_ ?_
        rotate_left
        · intro w'
          go_simp
          with_reducible rfl
        rotate_left
        · simp only [Act.put, List.setIfInBounds_toArray, List.set_cons_zero, List.set_cons_succ, i64_w, i32_w]
          rfl
        refine take_ (i := 4) (N := (some 37)) (v := ?_) (a' := ?_) #[true, true, true, true, true, false, false, false, false, false, false] rfl rfl (take_ofW HT_.out HW_.out (by kernel_rfl)) (fun _ _ _ h => h) (Or.inl ⟨by rfl, ?_⟩) hHeld ?_ ?_
        rotate_left
        · rintro w' ⟨s0, s1, s2⟩
          go_simp
          with_reducible rfl
        rotate_left
        · simp only [Act.put, List.setIfInBounds_toArray, List.set_cons_zero, List.set_cons_succ, i64_w, i32_w]
          rfl
        refine take_ (i := 5) (N := (some 38)) (v := ?_) (a' := ?_) #[true, true, true, true, true, true, false, false, false, false, false] rfl rfl (take_ofW HT_.out HW_.out (by kernel_rfl)) (fun _ _ _ h => h) (Or.inl ⟨by rfl, ?_⟩) hHeld ?_ ?_
        rotate_left
        · rintro w' ⟨s0, s1, s2⟩
          go_simp
          with_reducible rfl
        rotate_left
        · simp only [Act.put, List.setIfInBounds_toArray, List.set_cons_zero, List.set_cons_succ, i64_w, i32_w]
          rfl
        refine one_ (i := 6) (N := (some 39)) #[true, true, true, true, true, true, true, false, false, false, false] rfl rfl (one_of HT_.out (by kernel_rfl)) (by decide) (fun K hK => ?_)
        refine value_ (by rfl) rfl (v := .slice (some ⟨w3.heap.size, 0, none⟩) 1 1) (w1 := w3.alloc (.cells (evA e) 54)) (by go_simp <;> rfl) ?_
        refine hK.out _ _ (HR3.out.alloc _).cells (fun hHeld => ?_)
        clear hK K
        refine norm_ (a' := ?_) ?_ ?_
        rotate_left
        · show Act.put _ (some 39) _ = _
          simp only [Act.put, List.setIfInBounds_toArray, List.set_cons_zero, List.set_cons_succ, i64_w, i32_w]
          rfl
        refine one_ (i := 7) (N := (some 40)) #[true, true, true, true, true, true, true, true, false, false, false] rfl rfl (one_of HT_.out (by kernel_rfl)) (by decide) (fun K hK => ?_)
        refine if_wp rfl ?_
        refine RowIs.append_wp 24 96 _ _ _ Try.underlying24 ev_info rfl (by decide) rfl HR3.out.rd.st.rl e rfl (by simp [Value.oneCell']) (by rfl) (by rfl) HLL.out (by decide) HR3.out.rd.below.size ?_
        intro gg cap6 w6 hown hgrow hat
        have HP := Aside0.mk ((HR3.out.alloc _).app_l hown hgrow (by simpa using hat))
        clear hown hgrow hat
        refine hK.out _ _ HP.out.1 (fun hHeld => ?_)
        clear hK K
        refine norm_ (a' := ?_) ?_ ?_
        rotate_left
        · show Act.put _ (some 40) _ = _
          simp only [Act.put, List.setIfInBounds_toArray, List.set_cons_zero, List.set_cons_succ, i64_w, i32_w]
          rfl
        refine pure_ (i := 8) (N := (some 41)) (v := ?_) (a' := ?_) #[true, true, true, true, true, true, true, true, true, false, false] rfl rfl (any_of HT_.out (by kernel_rfl)) (fun _ _ _ h => h) (Or.inl ⟨by rfl, ?_⟩) ?_ ?_
        rotate_left
        · intro w'
          go_simp
          with_reducible rfl
        rotate_left
        · simp only [Act.put, List.setIfInBounds_toArray, List.set_cons_zero, List.set_cons_succ, i64_w, i32_w]
          rfl
        refine pure_ (i := 9) (N := (some 42)) (v := ?_) (a' := ?_) #[true, true, true, true, true, true, true, true, true, true, false] rfl rfl (any_of HT_.out (by kernel_rfl)) (fun _ _ _ h => h) (Or.inl ⟨by rfl, ?_⟩) ?_ ?_
        rotate_left
        · intro w'
          go_simp
          with_reducible rfl
        rotate_left
        · simp only [Act.put, List.setIfInBounds_toArray, List.set_cons_zero, List.set_cons_succ, i64_w, i32_w]
          rfl
        refine last_ (i := 10) (N := none) #[true, true, true, true, true, true, true, true, true, true, true] rfl rfl (one_of HT_.out (by kernel_rfl)) (by decide) (fun K hK => ?_)
        refine skip_ (by rfl) rfl (w1 := w6.setCell ⟨b, 0, none⟩ (.slice (some ⟨gg, 0, none⟩) (s.l.length + 1) cap6)) (by have q1 := hHeld.1 0; have q2 := hHeld.2.2 0; go_simp) ?_
        refine hK.out _ _ ?_
        clear hK K
        refine done_ (done_of HT_.out (by kernel_rfl)) ?_
        have HR7 := Aside0.mk HP.out.2
        clear HP HR2 HR3 hHeld hlt3 HH HSS CR HT_ HW_ c0 c1' c2 c3' c4 c5 c6 c7 c8 c9 c10 c11
        generalize w6.setCell ⟨b, 0, none⟩ (.slice (some ⟨gg, 0, none⟩) (s.l.length + 1) cap6) = w7 at HR7 ⊢
        have hlt := HR7.out.rd.st.lt
        have hel := blk_lt HR7.out.ev
        have hc := fun i => HR7.out.rd.st.cell i
        have hce := fun i => blk_cell HR7.out.ev i
        rcases hkind with hk1 | hk2 | hk34 | hk34 | hk5
        · have z1 : (e.k == 1) = true := beq_iff_eq.2 (by omega)
          have z2 : (e.k == 2) = false := beq_eq_false_iff_ne.2 (by omega)
          have z5 : (e.k == 5) = false := beq_eq_false_iff_ne.2 (by omega)
          have HF := Aside0.mk (HST.out.trans (step_one hk1))
          have HCK := Aside0.mk (show clkN (gOf l) (k + 1) = e.t by rw [clk_one (by rw [HCG.out]; exact hk1), HCG.out])
          clear hk1
          go_wp2
          go_roundw
          case rel => exact ⟨k + 1, by omega, by first | rw [hnn] | simp, by rw [HCK.out], ⟨_, _, _, HF.out ▸ HR7.out.rd.up (Nat.le_succ k)⟩⟩
          case measure => first | (rw [hnn]; simp [intOf]; omega) | (simp [intOf]; omega)
        · have z1 : (e.k == 1) = false := beq_eq_false_iff_ne.2 (by omega)
          have z2 : (e.k == 2) = true := beq_iff_eq.2 (by omega)
          have z5 : (e.k == 5) = false := beq_eq_false_iff_ne.2 (by omega)
          have HF := Aside0.mk (HST.out.trans (step_two hk2))
          have HCK := Aside0.mk (show clkN (gOf l) (k + 1) = clkN (gOf l) k from clk_not (by rw [HCG.out]; omega))
          clear hk2
          go_upto_region 14 with (fail)
          refine still_tail_at 11 (by kernel_rfl) (by kernel_rfl) fun w70 hw70 => ?_
          have HR70 := Aside0.mk (show Re w w70 b m1 m2 k { s with l := s.l ++ [e] } (.slice (some ⟨gg, 0, none⟩) (s.l.length + 1) cap6) vv (.slice A3 s.calls.length c3) wr.heap.size e by rw [hw70]; exact HR7.out.drew)
          clear hw70 hlt hel hc hce
          have hlt := HR70.out.rd.st.lt
          have hel := blk_lt HR70.out.ev
          have hc := fun i => HR70.out.rd.st.cell i
          have hce := fun i => blk_cell HR70.out.ev i
          simp only [List.take_succ_cons, List.take_zero, List.drop_succ_cons, List.drop_zero]
          repeat still_step
          refine wpStill_nil ?_
          obtain ⟨z, hz, hm⟩ := HR70.out.rd.st.mo
          refine wpl_store int_inj' rfl _ _ _ 95 rfl hm lawI Try.underlying95 (by unfold maxLen; have := HN.out; omega) (y := e.wk) (keyOf_int_mk Try.underlying3 HW.out.1) (val := .int .i64 (s.calls.length : Int)) rfl rfl rfl ?_
          intro w8 hm4 hg4
          rw [nV_updW] at hm4
          have HR8 := Aside0.mk (HR70.out.sto_o hm4 (by split <;> omega) hg4)
          clear hlt hel hc hce hm4 hg4 hm hz HR70
          go_upto_region 15 with (fail)
          refine start_ (n := 14) (S := (fun w' => (∀ i, w'.cell? ⟨b, i, none⟩ = (stA (.slice (some ⟨gg, 0, none⟩) (s.l.length + 1) cap6) vv (.slice A3 s.calls.length c3) m1 m2)[i]?) ∧ (∀ i, w'.cell? ⟨wr.heap.size, i, none⟩ = (evA e)[i]?) ∧ (∀ i, w'.frozen? ⟨b, i, none⟩ = false))) (ds := [13]) #[false, false, false, false, false, false, false, false, false, false, false, false, false, false] (by kernel_rfl) rfl rfl HR8.out.drew.cells (fun hHeld => ?_)
          refine with_tabW readR.tab15 readR.bits15 (fun HT_ HW_ => ?_)
          have HR9 := Aside0.mk HR8.out.drew
          generalize w8.drew = w9 at HR9 hHeld ⊢
          have hlt9 := HR9.out.rd.st.lt
          refine pure_ (i := 0) (N := (some 66)) (v := ?_) (a' := ?_) #[true, false, false, false, false, false, false, false, false, false, false, false, false, false] rfl rfl (any_of HT_.out (by kernel_rfl)) (fun _ _ _ h => h) (Or.inl ⟨by rfl, ?_⟩) ?_ ?_
          rotate_left
          · intro w'
            go_simp
            with_reducible rfl
          rotate_left
          · simp only [Act.put, List.setIfInBounds_toArray, List.set_cons_zero, List.set_cons_succ, i64_w, i32_w]
            rfl
          refine pure_ (i := 1) (N := (some 67)) (v := ?_) (a' := ?_) #[true, true, false, false, false, false, false, false, false, false, false, false, false, false] rfl rfl (any_of HT_.out (by kernel_rfl)) (fun _ _ _ h => h) (Or.inl ⟨by rfl, ?_⟩) ?_ ?_
          rotate_left
          · intro w'
            go_simp
            with_reducible rfl
          rotate_left
          · simp only [Act.put, List.setIfInBounds_toArray, List.set_cons_zero, List.set_cons_succ, i64_w, i32_w]
            rfl
          refine pure_ (i := 2) (N := (some 68)) (v := ?_) (a' := ?_) #[true, true, true, false, false, false, false, false, false, false, false, false, false, false] rfl rfl (any_of HT_.out (by kernel_rfl)) (fun _ _ _ h => h) (Or.inl ⟨by rfl, ?_⟩) ?_ ?_
          rotate_left
          · intro w'
            go_simp
            with_reducible rfl
          rotate_left
          · simp only [Act.put, List.setIfInBounds_toArray, List.set_cons_zero, List.set_cons_succ, i64_w, i32_w]
            rfl
          refine pure_ (i := 3) (N := (some 69)) (v := ?_) (a' := ?_) #[true, true, true, true, false, false, false, false, false, false, false, false, false, false] rfl rfl (any_of HT_.out (by kernel_rfl)) (fun _ _ _ h => h) (Or.inl ⟨by rfl, ?_⟩) ?_ ?_
          rotate_left
          · intro w'
            go_simp
            with_reducible rfl
          rotate_left
          · simp only [Act.put, List.setIfInBounds_toArray, List.set_cons_zero, List.set_cons_succ, i64_w, i32_w]
            rfl
          refine pure_ (i := 6) (N := (some 72)) (v := ?_) (a' := ?_) #[true, true, true, true, false, false, true, false, false, false, false, false, false, false] rfl rfl (any_of HT_.out (by kernel_rfl)) (fun _ _ _ h => h) (Or.inl ⟨by rfl, ?_⟩) ?_ ?_
          rotate_left
          · intro w'
            go_simp
            with_reducible rfl
          rotate_left
          · simp only [Act.put, List.setIfInBounds_toArray, List.set_cons_zero, List.set_cons_succ, i64_w, i32_w]
            rfl
          refine pure_ (i := 7) (N := (some 73)) (v := ?_) (a' := ?_) #[true, true, true, true, false, false, true, true, false, false, false, false, false, false] rfl rfl (any_of HT_.out (by kernel_rfl)) (fun _ _ _ h => h) (Or.inl ⟨by rfl, ?_⟩) ?_ ?_
          rotate_left
          · intro w'
            go_simp
            with_reducible rfl
          rotate_left
          · simp only [Act.put, List.setIfInBounds_toArray, List.set_cons_zero, List.set_cons_succ, i64_w, i32_w]
            rfl
          refine take_ (i := 4) (N := (some 70)) (v := ?_) (a' := ?_) #[true, true, true, true, true, false, true, true, false, false, false, false, false, false] rfl rfl (take_ofW HT_.out HW_.out (by kernel_rfl)) (fun _ _ _ h => h) (Or.inl ⟨by rfl, ?_⟩) hHeld ?_ ?_
          rotate_left
          · rintro w' ⟨s0, s1, s2⟩
            go_simp
            with_reducible rfl
          rotate_left
          · simp only [Act.put, List.setIfInBounds_toArray, List.set_cons_zero, List.set_cons_succ, i64_w, i32_w]
            rfl
          refine take_ (i := 5) (N := (some 71)) (v := ?_) (a' := ?_) #[true, true, true, true, true, true, true, true, false, false, false, false, false, false] rfl rfl (take_ofW HT_.out HW_.out (by kernel_rfl)) (fun _ _ _ h => h) (Or.inl ⟨by rfl, ?_⟩) hHeld ?_ ?_
          rotate_left
          · rintro w' ⟨s0, s1, s2⟩
            go_simp
            with_reducible rfl
          rotate_left
          · simp only [Act.put, List.setIfInBounds_toArray, List.set_cons_zero, List.set_cons_succ, i64_w, i32_w]
            rfl
          refine pure_ (i := 8) (N := (some 74)) (v := ?_) (a' := ?_) #[true, true, true, true, true, true, true, true, true, false, false, false, false, false] rfl rfl (any_of HT_.out (by kernel_rfl)) (fun _ _ _ h => h) (Or.inl ⟨by rfl, ?_⟩) ?_ ?_
          rotate_left
          · intro w'
            go_simp
            with_reducible rfl
          rotate_left
          · simp only [Act.put, List.setIfInBounds_toArray, List.set_cons_zero, List.set_cons_succ, i64_w, i32_w]
            rfl
          refine one_ (i := 9) (N := (some 75)) #[true, true, true, true, true, true, true, true, true, true, false, false, false, false] rfl rfl (one_of HT_.out (by kernel_rfl)) (by decide) (fun K hK => ?_)
          refine value_ (by rfl) rfl (v := .slice (some ⟨w9.heap.size, 0, none⟩) 1 1) (w1 := w9.alloc (.cells (clA ⟨e, (k : Int), clkN (gOf l) k, -1⟩) 103)) (by go_simp <;> rfl) ?_
          refine hK.out _ _ (HR9.out.alloc _).cells (fun hHeld => ?_)
          clear hK K
          refine norm_ (a' := ?_) ?_ ?_
          rotate_left
          · show Act.put _ (some 75) _ = _
            simp only [Act.put, List.setIfInBounds_toArray, List.set_cons_zero, List.set_cons_succ, i64_w, i32_w]
            rfl
          refine one_ (i := 10) (N := (some 76)) #[true, true, true, true, true, true, true, true, true, true, true, false, false, false] rfl rfl (one_of HT_.out (by kernel_rfl)) (by decide) (fun K hK => ?_)
          refine if_wp rfl ?_
          refine RowIs.append_wp 94 120 _ _ _ Try.underlying94 cl_info rfl (by decide) rfl HR9.out.rd.st.rc ⟨e, (k : Int), clkN (gOf l) k, -1⟩ rfl (by simp [Value.oneCell']) (by rfl) (by rfl) HLC.out (by decide) HR9.out.rd.below.size ?_
          intro gc capc w10 hown hgrow hat
          have HP9 := Aside0.mk ((HR9.out.alloc _).app_c hown hgrow)
          clear hown hgrow hat
          refine hK.out _ _ HP9.out.1 (fun hHeld => ?_)
          clear hK K
          refine norm_ (a' := ?_) ?_ ?_
          rotate_left
          · show Act.put _ (some 76) _ = _
            simp only [Act.put, List.setIfInBounds_toArray, List.set_cons_zero, List.set_cons_succ, i64_w, i32_w]
            rfl
          refine pure_ (i := 11) (N := (some 77)) (v := ?_) (a' := ?_) #[true, true, true, true, true, true, true, true, true, true, true, true, false, false] rfl rfl (any_of HT_.out (by kernel_rfl)) (fun _ _ _ h => h) (Or.inl ⟨by rfl, ?_⟩) ?_ ?_
          rotate_left
          · intro w'
            go_simp
            with_reducible rfl
          rotate_left
          · simp only [Act.put, List.setIfInBounds_toArray, List.set_cons_zero, List.set_cons_succ, i64_w, i32_w]
            rfl
          refine pure_ (i := 12) (N := (some 78)) (v := ?_) (a' := ?_) #[true, true, true, true, true, true, true, true, true, true, true, true, true, false] rfl rfl (any_of HT_.out (by kernel_rfl)) (fun _ _ _ h => h) (Or.inl ⟨by rfl, ?_⟩) ?_ ?_
          rotate_left
          · intro w'
            go_simp
            with_reducible rfl
          rotate_left
          · simp only [Act.put, List.setIfInBounds_toArray, List.set_cons_zero, List.set_cons_succ, i64_w, i32_w]
            rfl
          refine last_ (i := 13) (N := none) #[true, true, true, true, true, true, true, true, true, true, true, true, true, true] rfl rfl (one_of HT_.out (by kernel_rfl)) (by decide) (fun K hK => ?_)
          refine skip_ (by rfl) rfl (w1 := w10.setCell ⟨b, 3, none⟩ (.slice (some ⟨gc, 0, none⟩) (s.calls.length + 1) capc)) (by have q1 := hHeld.1 3; have q2 := hHeld.2.2 3; go_simp) ?_
          refine hK.out _ _ ?_
          clear hK K
          refine done_ (done_of HT_.out (by kernel_rfl)) ?_
          go_wp2
          go_roundw
          case rel => exact ⟨k + 1, by omega, by first | rw [hnn] | simp, by rw [HCK.out], ⟨_, _, _, HF.out ▸ HP9.out.2⟩⟩
          case measure => first | (rw [hnn]; simp [intOf]; omega) | (simp [intOf]; omega)
        · have z1 : (e.k == 1) = false := beq_eq_false_iff_ne.2 (by omega)
          have z2 : (e.k == 2) = false := beq_eq_false_iff_ne.2 (by omega)
          have z5 : (e.k == 5) = false := beq_eq_false_iff_ne.2 (by omega)
          have HF := Aside0.mk (HST.out.trans (step_turn (.inl hk34)))
          have HCK := Aside0.mk (show clkN (gOf l) (k + 1) = clkN (gOf l) k from clk_not (by rw [HCG.out]; omega))
          have CT := Aside0.mk (turn_any (s := { s with l := s.l ++ [e] }) k e w7 HR7.out.rd.st (keyH e.hn e.hg HW.out.2.1 HW.out.2.2.1) (keyH e.nn e.ng HW.out.2.2.2.1 HW.out.2.2.2.2) (by have := HN.out; omega) HLV.out HAT.out (by omega))
          clear hk34
          go_wp2_with (go_at_call 84; (with_reducible refine CT.out.mono ?_); rintro r w8 ⟨rfl, vv8, hS8, hF8⟩; have HR8 := Aside0.mk (show Rd w w8 b m1 m2 (k + 1) _ _ _ _ from ⟨hS8, HR7.out.rd.below.trans (hF8.below HR7.out.rd.below.size (by rintro g (q | q | q); (rw [q]; exact HR7.out.rd.st.hb); (rw [q]; exact HR7.out.rd.st.h1); exact (HR7.out.rd.st.rv.lt g q.symm).1))⟩); clear hS8 hF8)
          go_roundw
          case rel => exact ⟨k + 1, by omega, by first | rw [hnn] | simp, by rw [HCK.out], ⟨_, _, _, HF.out ▸ HR8.out⟩⟩
          case measure => first | (rw [hnn]; simp [intOf]; omega) | (simp [intOf]; omega)
        · have z1 : (e.k == 1) = false := beq_eq_false_iff_ne.2 (by omega)
          have z2 : (e.k == 2) = false := beq_eq_false_iff_ne.2 (by omega)
          have z5 : (e.k == 5) = false := beq_eq_false_iff_ne.2 (by omega)
          have HF := Aside0.mk (HST.out.trans (step_turn (.inr hk34)))
          have HCK := Aside0.mk (show clkN (gOf l) (k + 1) = clkN (gOf l) k from clk_not (by rw [HCG.out]; omega))
          have CT := Aside0.mk (turn_any (s := { s with l := s.l ++ [e] }) k e w7 HR7.out.rd.st (keyH e.hn e.hg HW.out.2.1 HW.out.2.2.1) (keyH e.nn e.ng HW.out.2.2.2.1 HW.out.2.2.2.2) (by have := HN.out; omega) HLV.out HAT.out (by omega))
          clear hk34
          go_wp2_with (go_at_call 84; (with_reducible refine CT.out.mono ?_); rintro r w8 ⟨rfl, vv8, hS8, hF8⟩; have HR8 := Aside0.mk (show Rd w w8 b m1 m2 (k + 1) _ _ _ _ from ⟨hS8, HR7.out.rd.below.trans (hF8.below HR7.out.rd.below.size (by rintro g (q | q | q); (rw [q]; exact HR7.out.rd.st.hb); (rw [q]; exact HR7.out.rd.st.h1); exact (HR7.out.rd.st.rv.lt g q.symm).1))⟩); clear hS8 hF8)
          go_roundw
          case rel => exact ⟨k + 1, by omega, by first | rw [hnn] | simp, by rw [HCK.out], ⟨_, _, _, HF.out ▸ HR8.out⟩⟩
          case measure => first | (rw [hnn]; simp [intOf]; omega) | (simp [intOf]; omega)
        · have z1 : (e.k == 1) = false := beq_eq_false_iff_ne.2 (by omega)
          have z2 : (e.k == 2) = false := beq_eq_false_iff_ne.2 (by omega)
          have z5 : (e.k == 5) = true := beq_iff_eq.2 (by omega)
          have HCK := Aside0.mk (show clkN (gOf l) (k + 1) = clkN (gOf l) k from clk_not (by rw [HCG.out]; omega))
          have hl0 := fun q => HR7.out.look HW.out.1 (w7.drewN q) rfl
          cases ho : s.opn e.wk with
          | none =>
            have HF := Aside0.mk (HST.out.trans ((step_five hk5).trans (back_none ho)))
            simp only [ho, Option.map_none, Option.getD_none, Option.isSome_none] at hl0
            clear hk5 ho
            go_wp2
            go_quiet (fail)
            go_wp2
            go_quiet (fail)
            go_wp2
            go_roundw
            case rel => exact ⟨k + 1, by omega, by first | rw [hnn] | simp, by rw [HCK.out], ⟨_, _, _, HF.out ▸ ((HR7.out.drewN _).rd.up (Nat.le_succ k))⟩⟩
            case measure => first | (rw [hnn]; simp [intOf]; omega) | (simp [intOf]; omega)
          | some j =>
            obtain ⟨q, hq⟩ := HOP.out e.wk j ho
            simp only [ho, Option.map_some, Option.getD_some, Option.isSome_some] at hl0
            obtain ⟨g5, c5, hv5, hcp, hgl, hcell⟩ := HR7.out.rd.st.rc.at_ (fun _ => rfl) hq
            injection hv5 with hv1 hv2 hv3
            subst hv1
            have hjl : j < s.calls.length := (List.getElem?_eq_some_iff.1 hq).1
            have p0j := eq_true (show (0 : Int) ≤ (j : Int) by omega)
            have p1j := eq_true (show (j : Int) < (s.calls.length : Int) by omega)
            have d2 := hcell 2 (by decide)
            have d14 := hcell 14 (by decide)
            clear hcell hv2 hcp hjl
            by_cases hop : q.e.op = e.op
            · have yo : (q.e.op == e.op) = true := beq_iff_eq.2 hop
              by_cases hen : q.en < 0
              · have ye : decide (q.en < 0) = true := decide_eq_true hen
                have HF := Aside0.mk (HST.out.trans ((step_five hk5).trans (back_set ho hq ⟨hop, hen⟩)))
                obtain ⟨cur, hcur⟩ := HR7.out.rd.st.rc.own (show (Value.slice (some ⟨g5, 0, none⟩) s.calls.length c3).ownBlock = some g5 from rfl)
                have fz := blk_frozen hcur (j * 15 + 14)
                have HQ := Aside0.mk hq
                clear hk5 ho hop hen hcur hq
                go_wp2
                go_quiet (fail)
                go_wp2
                go_quiet (fail)
                go_wp2
                go_roundw
                case rel => exact ⟨k + 1, by omega, by first | rw [hnn] | simp, by rw [HCK.out], ⟨_, _, _, HF.out ▸ (((HR7.out.drewN _).rd.put_c (k : Int) HQ.out).up (Nat.le_succ k))⟩⟩
                case measure => first | (rw [hnn]; simp [intOf]; omega) | (simp [intOf]; omega)
              · have ye : decide (q.en < 0) = false := decide_eq_false hen
                have HF := Aside0.mk (HST.out.trans ((step_five hk5).trans (back_keep ho hq (fun z => hen z.2))))
                clear hk5 ho hop hen hq
                go_wp2
                go_quiet (fail)
                go_wp2
                go_quiet (fail)
                go_wp2
                go_roundw
                case rel => exact ⟨k + 1, by omega, by first | rw [hnn] | simp, by rw [HCK.out], ⟨_, _, _, HF.out ▸ ((HR7.out.drewN _).rd.up (Nat.le_succ k))⟩⟩
                case measure => first | (rw [hnn]; simp [intOf]; omega) | (simp [intOf]; omega)
            · have yo : (q.e.op == e.op) = false := beq_eq_false_iff_ne.2 hop
              have HF := Aside0.mk (HST.out.trans ((step_five hk5).trans (back_keep ho hq (fun z => hop z.1))))
              clear hk5 ho hop hq
              go_wp2
              go_quiet (fail)
              go_wp2
              go_quiet (fail)
              go_wp2
              go_roundw
              case rel => exact ⟨k + 1, by omega, by first | rw [hnn] | simp, by rw [HCK.out], ⟨_, _, _, HF.out ▸ ((HR7.out.drewN _).rd.up (Nat.le_succ k))⟩⟩
              case measure => first | (rw [hnn]; simp [intOf]; omega) | (simp [intOf]; omega)
    · have q0 : ((k : Int) < (l.length : Int)) = False := eq_false (by omega)
      have hkl : k = l.length := by omega
      subst hkl
      obtain ⟨vl, vv, vc, hS⟩ := HS.out
      have HSS := Aside0.mk hS
      clear hS HS
      go_wp2
      go_ret
      exact ⟨b, m1, m2, vl, vv, vc, rfl, HSS.out.st, HSS.out.below⟩
end Go.Proofs.Ythniclbmpeklmaa.Au
