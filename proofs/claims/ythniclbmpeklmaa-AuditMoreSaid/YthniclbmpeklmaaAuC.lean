/- What is proved: what the closures of audit.Early and audit.Wrong tell of an event, and what 'some' tells of a row. -/
import Derived.Test.YthniclbmpeklmaaAuR
namespace Go.Proofs.Ythniclbmpeklmaa.Au
open Go.RowKit Go.Maps Go.Proofs.YthniclbmpeklmaaW.PrintWords Go.Proofs.YthniclbmpeklmaaW.PrintLast Go.Proofs.YthniclbmpeklmaaW.PrintMore Go.Proofs.Ythniclbmpeklmaa.Mp
set_option linter.unusedVariables false
set_option linter.unusedSimpArgs false
theorem two_alloc (w : World) (o o' : Obj) : ((w.alloc o).alloc o').heap[w.heap.size + 1]? = some o' := by simpa using blk_new (w.alloc o) o'

set_option maxHeartbeats 4000000 in
set_option maxRecDepth 100000 in
theorem early_none {B b n m1 m2 sb : Nat} {s : Story} {vl vv vc : Value} (i : Nat) (e : Ev) (w : World) (hB : StIs w B b n s vl vv vc m1 m2) (hsb : w.heap[sb]? = some (.cells #[.pointer (some ⟨b, 0, none⟩)] 87 (0, 0))) (hw : ∃ kl, keyOf Try.prog 34 (haV (e.hn, e.hg)) = some kl) (hi : i ≤ 1000000) (ha : s.at_ e.h = none) :
    Calls Try.prog 51 #[.int .i64 (i : Int), .agg (evA e), .pointer (some ⟨sb, 0, none⟩)] w fun r w' => r = .returned (.bool true) ∧ Below w.heap.size w w' := by
  have hu97 := Try.underlying97
  have hu54 := Try.underlying54
  have hu34 := Try.underlying34
  have hu99 := Try.underlying99
  obtain ⟨kl, hkl⟩ := hw
  obtain ⟨z, hz, hm⟩ := hB.ma
  have hl0 := fun q => look_at hm hkl ((w.alloc (.cells (evA e) 54)).drewN q) (Below.heap_alloc w _ m1 hm.lt)
  rw [show (e.hn, e.hg) = e.h from rfl, ha] at hl0
  simp only [Option.map_none, Option.getD_none, Option.isSome_none, Option.map_some, Option.getD_some, Option.isSome_some] at hl0
  have hlt := hB.lt
  have hls := blk_lt hsb
  have hc := fun i => hB.cell i
  have hcs := fun i => blk_cell hsb i
  clear hB hsb hm hz hkl ha hi
  go_enter Try.func51, Try.ntmps51
  go_wp2
  go_quiet (fail)
  go_wp2
  go_quiet (fail)
  go_wp2
  go_ret
  exact ⟨rfl, by repeat (first | exact Below.refl _ _ | apply below_alloc | apply pw_below_drewN)⟩

set_option maxHeartbeats 4000000 in
set_option maxRecDepth 100000 in
theorem early_late {B b n m1 m2 sb : Nat} {s : Story} {vl vv vc : Value} (i : Nat) (e : Ev) (w : World) (hB : StIs w B b n s vl vv vc m1 m2) (hsb : w.heap[sb]? = some (.cells #[.pointer (some ⟨b, 0, none⟩)] 87 (0, 0))) (hw : ∃ kl, keyOf Try.prog 34 (haV (e.hn, e.hg)) = some kl) (hi : i ≤ 1000000) (k : Nat) (x : Life) (ha : s.at_ e.h = some k) (hx : s.lives[k]? = some x) (h1 : x.made > i) :
    Calls Try.prog 51 #[.int .i64 (i : Int), .agg (evA e), .pointer (some ⟨sb, 0, none⟩)] w fun r w' => r = .returned (.bool true) ∧ Below w.heap.size w w' := by
  have hu97 := Try.underlying97
  have hu54 := Try.underlying54
  have hu34 := Try.underlying34
  have hu99 := Try.underlying99
  obtain ⟨kl, hkl⟩ := hw
  obtain ⟨z, hz, hm⟩ := hB.ma
  have hl0 := fun q => look_at hm hkl ((w.alloc (.cells (evA e) 54)).drewN q) (Below.heap_alloc w _ m1 hm.lt)
  rw [show (e.hn, e.hg) = e.h from rfl, ha] at hl0
  simp only [Option.map_none, Option.getD_none, Option.isSome_none, Option.map_some, Option.getD_some, Option.isSome_some] at hl0
  obtain ⟨g, cp, rfl, hcp, hgl, hcell⟩ := hB.rv.at_ (fun _ => rfl) hx
  have hkl2 : k < s.lives.length := (List.getElem?_eq_some_iff.1 hx).1
  have p0 := eq_true (show (0 : Int) ≤ (k : Int) by omega)
  have p1 := eq_true (show (k : Int) < (s.lives.length : Int) by omega)
  have d2 := hcell 2 (by decide)
  have d5 := hcell 5 (by decide)
  clear hcell hkl2 hcp
  have g1 : decide (x.made > (i : Int)) = true := decide_eq_true h1
  have hlt := hB.lt
  have hls := blk_lt hsb
  have hc := fun i => hB.cell i
  have hcs := fun i => blk_cell hsb i
  clear hB hsb hm hz hkl ha hi hx h1
  go_enter Try.func51, Try.ntmps51
  go_wp2
  go_quiet (fail)
  go_wp2
  go_quiet (fail)
  go_wp2
  go_ret
  exact ⟨rfl, by repeat (first | exact Below.refl _ _ | apply below_alloc | apply pw_below_drewN)⟩

set_option maxHeartbeats 4000000 in
set_option maxRecDepth 100000 in
theorem early_due {B b n m1 m2 sb : Nat} {s : Story} {vl vv vc : Value} (i : Nat) (e : Ev) (w : World) (hB : StIs w B b n s vl vv vc m1 m2) (hsb : w.heap[sb]? = some (.cells #[.pointer (some ⟨b, 0, none⟩)] 87 (0, 0))) (hw : ∃ kl, keyOf Try.prog 34 (haV (e.hn, e.hg)) = some kl) (hi : i ≤ 1000000) (k : Nat) (x : Life) (ha : s.at_ e.h = some k) (hx : s.lives[k]? = some x) (h1 : ¬ x.made > i) (h2 : x.dl > e.t) :
    Calls Try.prog 51 #[.int .i64 (i : Int), .agg (evA e), .pointer (some ⟨sb, 0, none⟩)] w fun r w' => r = .returned (.bool true) ∧ Below w.heap.size w w' := by
  have hu97 := Try.underlying97
  have hu54 := Try.underlying54
  have hu34 := Try.underlying34
  have hu99 := Try.underlying99
  obtain ⟨kl, hkl⟩ := hw
  obtain ⟨z, hz, hm⟩ := hB.ma
  have hl0 := fun q => look_at hm hkl ((w.alloc (.cells (evA e) 54)).drewN q) (Below.heap_alloc w _ m1 hm.lt)
  rw [show (e.hn, e.hg) = e.h from rfl, ha] at hl0
  simp only [Option.map_none, Option.getD_none, Option.isSome_none, Option.map_some, Option.getD_some, Option.isSome_some] at hl0
  obtain ⟨g, cp, rfl, hcp, hgl, hcell⟩ := hB.rv.at_ (fun _ => rfl) hx
  have hkl2 : k < s.lives.length := (List.getElem?_eq_some_iff.1 hx).1
  have p0 := eq_true (show (0 : Int) ≤ (k : Int) by omega)
  have p1 := eq_true (show (k : Int) < (s.lives.length : Int) by omega)
  have d2 := hcell 2 (by decide)
  have d5 := hcell 5 (by decide)
  clear hcell hkl2 hcp
  have g1 : decide (x.made > (i : Int)) = false := decide_eq_false h1
  have g2 : decide (x.dl > e.t) = true := decide_eq_true h2
  have hlt := hB.lt
  have hls := blk_lt hsb
  have hc := fun i => hB.cell i
  have hcs := fun i => blk_cell hsb i
  clear hB hsb hm hz hkl ha hi hx h1 h2
  go_enter Try.func51, Try.ntmps51
  go_wp2
  go_quiet (fail)
  go_wp2
  go_quiet (fail)
  go_wp2
  go_ret
  exact ⟨rfl, by repeat (first | exact Below.refl _ _ | apply below_alloc | apply pw_below_drewN)⟩

set_option maxHeartbeats 4000000 in
set_option maxRecDepth 100000 in
theorem early_fine {B b n m1 m2 sb : Nat} {s : Story} {vl vv vc : Value} (i : Nat) (e : Ev) (w : World) (hB : StIs w B b n s vl vv vc m1 m2) (hsb : w.heap[sb]? = some (.cells #[.pointer (some ⟨b, 0, none⟩)] 87 (0, 0))) (hw : ∃ kl, keyOf Try.prog 34 (haV (e.hn, e.hg)) = some kl) (hi : i ≤ 1000000) (k : Nat) (x : Life) (ha : s.at_ e.h = some k) (hx : s.lives[k]? = some x) (h1 : ¬ x.made > i) (h2 : ¬ x.dl > e.t) :
    Calls Try.prog 51 #[.int .i64 (i : Int), .agg (evA e), .pointer (some ⟨sb, 0, none⟩)] w fun r w' => r = .returned (.bool false) ∧ Below w.heap.size w w' := by
  have hu97 := Try.underlying97
  have hu54 := Try.underlying54
  have hu34 := Try.underlying34
  have hu99 := Try.underlying99
  obtain ⟨kl, hkl⟩ := hw
  obtain ⟨z, hz, hm⟩ := hB.ma
  have hl0 := fun q => look_at hm hkl ((w.alloc (.cells (evA e) 54)).drewN q) (Below.heap_alloc w _ m1 hm.lt)
  rw [show (e.hn, e.hg) = e.h from rfl, ha] at hl0
  simp only [Option.map_none, Option.getD_none, Option.isSome_none, Option.map_some, Option.getD_some, Option.isSome_some] at hl0
  obtain ⟨g, cp, rfl, hcp, hgl, hcell⟩ := hB.rv.at_ (fun _ => rfl) hx
  have hkl2 : k < s.lives.length := (List.getElem?_eq_some_iff.1 hx).1
  have p0 := eq_true (show (0 : Int) ≤ (k : Int) by omega)
  have p1 := eq_true (show (k : Int) < (s.lives.length : Int) by omega)
  have d2 := hcell 2 (by decide)
  have d5 := hcell 5 (by decide)
  clear hcell hkl2 hcp
  have g1 : decide (x.made > (i : Int)) = false := decide_eq_false h1
  have g2 : decide (x.dl > e.t) = false := decide_eq_false h2
  have hlt := hB.lt
  have hls := blk_lt hsb
  have hc := fun i => hB.cell i
  have hcs := fun i => blk_cell hsb i
  clear hB hsb hm hz hkl ha hi hx h1 h2
  go_enter Try.func51, Try.ntmps51
  go_wp2
  go_quiet (fail)
  go_wp2
  go_quiet (fail)
  go_wp2
  go_ret
  exact ⟨rfl, by repeat (first | exact Below.refl _ _ | apply below_alloc | apply pw_below_drewN)⟩

theorem early_any {B b n m1 m2 sb : Nat} {s : Story} {vl vv vc : Value} (i : Nat) (e : Ev) (w : World) (hB : StIs w B b n s vl vv vc m1 m2) (hsb : w.heap[sb]? = some (.cells #[.pointer (some ⟨b, 0, none⟩)] 87 (0, 0))) (hw : ∃ kl, keyOf Try.prog 34 (haV (e.hn, e.hg)) = some kl) (hi : i ≤ 1000000) (hv : ∀ h j, s.at_ h = some j → ∃ x, s.lives[j]? = some x) :
    Calls Try.prog 51 #[.int .i64 (i : Int), .agg (evA e), .pointer (some ⟨sb, 0, none⟩)] w fun r w' => r = .returned (.bool (earlyC s i e)) ∧ Below w.heap.size w w' := by
  unfold earlyC
  cases ha : s.at_ e.h with
  | none => exact early_none i e w hB hsb hw hi ha
  | some k =>
    obtain ⟨x, hx⟩ := hv _ k ha
    simp only [hx]
    by_cases h1 : x.made > i
    · rw [decide_eq_true h1]; exact early_late i e w hB hsb hw hi k x ha hx h1
    · rw [decide_eq_false h1]
      by_cases h2 : x.dl > e.t
      · rw [decide_eq_true h2]; exact early_due i e w hB hsb hw hi k x ha hx h1 h2
      · rw [decide_eq_false h2]; exact early_fine i e w hB hsb hw hi k x ha hx h1 h2

/-- An event's cells somewhere. -/
def EvRow (w : World) (g o : Nat) (e : Ev) : Prop := w.cell? ⟨g, o, none⟩ = some (.int .i64 e.k) ∧ w.cell? ⟨g, o + 1, none⟩ = some (.int .i64 e.wk) ∧ w.cell? ⟨g, o + 2, none⟩ = some (.int .i64 e.op) ∧ w.cell? ⟨g, o + 3, none⟩ = some (.int .i64 e.hn) ∧ w.cell? ⟨g, o + 4, none⟩ = some (.int .i64 e.hg) ∧ w.cell? ⟨g, o + 5, none⟩ = some (.int .i64 e.nn) ∧ w.cell? ⟨g, o + 6, none⟩ = some (.int .i64 e.ng) ∧ w.cell? ⟨g, o + 7, none⟩ = some (.int .i64 e.t) ∧ w.cell? ⟨g, o + 8, none⟩ = some (.int .i64 e.a) ∧ w.cell? ⟨g, o + 9, none⟩ = some (.int .i64 e.u) ∧ w.cell? ⟨g, o + 10, none⟩ = some (.bool e.y) ∧ w.cell? ⟨g, o + 11, none⟩ = some (.int .i64 e.er)
theorem EvRow.below {w w1 : World} {g o : Nat} {e : Ev} (h : EvRow w g o e) (hb : Below w.heap.size w w1) : EvRow w1 g o e := by
  obtain ⟨h0, h1, h2, h3, h4, h5, h6, h7, h8, h9, h10, h11⟩ := h
  exact ⟨pw_cell_below hb h0, pw_cell_below hb h1, pw_cell_below hb h2, pw_cell_below hb h3, pw_cell_below hb h4, pw_cell_below hb h5, pw_cell_below hb h6, pw_cell_below hb h7, pw_cell_below hb h8, pw_cell_below hb h9, pw_cell_below hb h10, pw_cell_below hb h11⟩
/-- What the region of Wrong's inner closure reads. -/
def S55 (w : World) (b sb qb g o : Nat) (vl vv vc : Value) (m1 m2 : Nat) (q : Cl) (e : Ev) : Prop := (∀ i, w.cell? ⟨b, i, none⟩ = (stA vl vv vc m1 m2)[i]?) ∧ (∀ i, w.cell? ⟨sb, i, none⟩ = (#[.pointer (some ⟨b, 0, none⟩)] : Array Value)[i]?) ∧ (∀ i, w.cell? ⟨qb, i, none⟩ = (clA q)[i]?) ∧ EvRow w g o e
theorem lt_some {w : World} {b : Nat} {cs : Array Value} (h : ∀ i, w.cell? ⟨b, i, none⟩ = cs[i]?) (h0 : 0 < cs.size) : b < w.heap.size := by
  have h1 := h 0
  rw [Array.getElem?_eq_getElem h0] at h1
  exact World.block_lt_of_cell? w _ h1
theorem S55.below {w w1 : World} {b sb qb g o : Nat} {vl vv vc : Value} {m1 m2 : Nat} {q : Cl} {e : Ev} (h : S55 w b sb qb g o vl vv vc m1 m2 q e) (hb : Below w.heap.size w w1) : S55 w1 b sb qb g o vl vv vc m1 m2 q e :=
  ⟨fun i => (hb.cell (p := ⟨b, i, none⟩) (lt_some h.1 (by simp))).trans (h.1 i), fun i => (hb.cell (p := ⟨sb, i, none⟩) (lt_some h.2.1 (by simp))).trans (h.2.1 i), fun i => (hb.cell (p := ⟨qb, i, none⟩) (lt_some h.2.2.1 (by simp))).trans (h.2.2.1 i), h.2.2.2.below hb⟩
attribute [local go_sem high] Ev.eqHa

def wrongR.T3 : Bool × List (List Nat × List Nat) := (true, [([], []), ([0], [0]), ([1], [1]), ([2], [2]), ([], []), ([4], [4]), ([3, 5], [3, 5]), ([6], [6]), ([], []), ([8, 7, 0, 1, 2, 3, 4, 5, 6, 7, 8], [7, 8])])
def wrongR.B3 : List Nat := [0, 1, 3, 7, 0, 16, 63, 127, 0, 511]
theorem wrongR.tab3 : rtab .any (opsOf Try.f55 3) = wrongR.T3 := by kernel_rfl
theorem wrongR.bits3 : waitsOk wrongR.T3.2 wrongR.B3 = true := by kernel_rfl

set_option maxHeartbeats 4000000 in
set_option maxRecDepth 100000 in
theorem wrong1_open {B b n m1 m2 sb ib eb : Nat} {s : Story} {vl vv vc : Value} (i : Nat) (e qe : Ev) (qb qc qn : Int) (w : World) (hB : StIs w B b n s vl vv vc m1 m2) (hsb : w.heap[sb]? = some (.cells #[.pointer (some ⟨b, 0, none⟩)] 87 (0, 0))) (hib : w.heap[ib]? = some (.cells #[.int .i64 (i : Int)] 3 (0, 0))) (heb : w.heap[eb]? = some (.cells (evA e) 54 (0, 0))) (h1 : qn < 0) :
    Calls Try.prog 55 #[.agg (clA ⟨qe, qb, qc, qn⟩), .pointer (some ⟨ib, 0, none⟩), .pointer (some ⟨eb, 0, none⟩), .pointer (some ⟨sb, 0, none⟩)] w fun r w' => r = .returned (.bool (false)) ∧ Below w.heap.size w w' := by
  have hu97 := Try.underlying97
  have hu54 := Try.underlying54
  have hu34 := Try.underlying34
  have hu103 := Try.underlying103
  have g1 : decide (qn < 0) = true := decide_eq_true (by omega)
  have hlt := hB.lt
  have hls := blk_lt hsb
  have hli := blk_lt hib
  have hle := blk_lt heb
  have hc := fun i => hB.cell i
  have hcs := fun i => blk_cell hsb i
  have hci := fun i => blk_cell hib i
  have hce := fun i => blk_cell heb i
  clear hB hsb hib heb h1
  go_enter Try.func55, Try.ntmps55
  go_wp2
  go_ret
  exact ⟨rfl, by repeat (first | exact Below.refl _ _ | apply below_alloc | apply pw_below_drewN)⟩

set_option maxHeartbeats 4000000 in
set_option maxRecDepth 100000 in
theorem wrong1_later {B b n m1 m2 sb ib eb : Nat} {s : Story} {vl vv vc : Value} (i : Nat) (e qe : Ev) (qb qc qn : Int) (w : World) (hB : StIs w B b n s vl vv vc m1 m2) (hsb : w.heap[sb]? = some (.cells #[.pointer (some ⟨b, 0, none⟩)] 87 (0, 0))) (hib : w.heap[ib]? = some (.cells #[.int .i64 (i : Int)] 3 (0, 0))) (heb : w.heap[eb]? = some (.cells (evA e) 54 (0, 0))) (h1 : ¬ qn < 0) (h2 : qn > (i : Int)) :
    Calls Try.prog 55 #[.agg (clA ⟨qe, qb, qc, qn⟩), .pointer (some ⟨ib, 0, none⟩), .pointer (some ⟨eb, 0, none⟩), .pointer (some ⟨sb, 0, none⟩)] w fun r w' => r = .returned (.bool (false)) ∧ Below w.heap.size w w' := by
  have hu97 := Try.underlying97
  have hu54 := Try.underlying54
  have hu34 := Try.underlying34
  have hu103 := Try.underlying103
  have g1 : decide (qn < 0) = false := decide_eq_false (by omega)
  have g2 : decide (qn > (i : Int)) = true := decide_eq_true (by omega)
  have hlt := hB.lt
  have hls := blk_lt hsb
  have hli := blk_lt hib
  have hle := blk_lt heb
  have hc := fun i => hB.cell i
  have hcs := fun i => blk_cell hsb i
  have hci := fun i => blk_cell hib i
  have hce := fun i => blk_cell heb i
  clear hB hsb hib heb h1 h2
  go_enter Try.func55, Try.ntmps55
  go_wp2
  go_ret
  exact ⟨rfl, by repeat (first | exact Below.refl _ _ | apply below_alloc | apply pw_below_drewN)⟩

set_option maxHeartbeats 4000000 in
set_option maxRecDepth 100000 in
theorem wrong1_other1 {B b n m1 m2 sb ib eb : Nat} {s : Story} {vl vv vc : Value} (i : Nat) (e qe : Ev) (qb qc qn : Int) (w : World) (hB : StIs w B b n s vl vv vc m1 m2) (hsb : w.heap[sb]? = some (.cells #[.pointer (some ⟨b, 0, none⟩)] 87 (0, 0))) (hib : w.heap[ib]? = some (.cells #[.int .i64 (i : Int)] 3 (0, 0))) (heb : w.heap[eb]? = some (.cells (evA e) 54 (0, 0))) (h1 : ¬ qn < 0) (h2 : ¬ qn > (i : Int)) (h3 : ¬ qe.hn = e.hn) :
    Calls Try.prog 55 #[.agg (clA ⟨qe, qb, qc, qn⟩), .pointer (some ⟨ib, 0, none⟩), .pointer (some ⟨eb, 0, none⟩), .pointer (some ⟨sb, 0, none⟩)] w fun r w' => r = .returned (.bool (false)) ∧ Below w.heap.size w w' := by
  have hu97 := Try.underlying97
  have hu54 := Try.underlying54
  have hu34 := Try.underlying34
  have hu103 := Try.underlying103
  have g1 : decide (qn < 0) = false := decide_eq_false (by omega)
  have g2 : decide (qn > (i : Int)) = false := decide_eq_false (by omega)
  have g3 : (qe.hn == e.hn) = false := beq_eq_false_iff_ne.2 h3
  have hlt := hB.lt
  have hls := blk_lt hsb
  have hli := blk_lt hib
  have hle := blk_lt heb
  have hc := fun i => hB.cell i
  have hcs := fun i => blk_cell hsb i
  have hci := fun i => blk_cell hib i
  have hce := fun i => blk_cell heb i
  clear hB hsb hib heb h1 h2 h3
  go_enter Try.func55, Try.ntmps55
  go_wp2
  go_ret
  exact ⟨rfl, by repeat (first | exact Below.refl _ _ | apply below_alloc | apply pw_below_drewN)⟩

set_option maxHeartbeats 4000000 in
set_option maxRecDepth 100000 in
theorem wrong1_other2 {B b n m1 m2 sb ib eb : Nat} {s : Story} {vl vv vc : Value} (i : Nat) (e qe : Ev) (qb qc qn : Int) (w : World) (hB : StIs w B b n s vl vv vc m1 m2) (hsb : w.heap[sb]? = some (.cells #[.pointer (some ⟨b, 0, none⟩)] 87 (0, 0))) (hib : w.heap[ib]? = some (.cells #[.int .i64 (i : Int)] 3 (0, 0))) (heb : w.heap[eb]? = some (.cells (evA e) 54 (0, 0))) (h1 : ¬ qn < 0) (h2 : ¬ qn > (i : Int)) (h3 : qe.hn = e.hn) (h4 : ¬ qe.hg = e.hg) :
    Calls Try.prog 55 #[.agg (clA ⟨qe, qb, qc, qn⟩), .pointer (some ⟨ib, 0, none⟩), .pointer (some ⟨eb, 0, none⟩), .pointer (some ⟨sb, 0, none⟩)] w fun r w' => r = .returned (.bool (false)) ∧ Below w.heap.size w w' := by
  have hu97 := Try.underlying97
  have hu54 := Try.underlying54
  have hu34 := Try.underlying34
  have hu103 := Try.underlying103
  have g1 : decide (qn < 0) = false := decide_eq_false (by omega)
  have g2 : decide (qn > (i : Int)) = false := decide_eq_false (by omega)
  have g3 : (qe.hn == e.hn) = true := beq_iff_eq.2 h3
  have g4 : (qe.hg == e.hg) = false := beq_eq_false_iff_ne.2 h4
  have hlt := hB.lt
  have hls := blk_lt hsb
  have hli := blk_lt hib
  have hle := blk_lt heb
  have hc := fun i => hB.cell i
  have hcs := fun i => blk_cell hsb i
  have hci := fun i => blk_cell hib i
  have hce := fun i => blk_cell heb i
  clear hB hsb hib heb h1 h2 h3 h4
  go_enter Try.func55, Try.ntmps55
  go_wp2
  go_ret
  exact ⟨rfl, by repeat (first | exact Below.refl _ _ | apply below_alloc | apply pw_below_drewN)⟩

set_option maxHeartbeats 4000000 in
set_option maxRecDepth 100000 in
theorem wrong1_cancel_y {B b n m1 m2 sb ib eb : Nat} {s : Story} {vl vv vc : Value} (i : Nat) (e qe : Ev) (qb qc : Int) (w : World) (hB : StIs w B b n s vl vv vc m1 m2) (hsb : w.heap[sb]? = some (.cells #[.pointer (some ⟨b, 0, none⟩)] 87 (0, 0))) (hib : w.heap[ib]? = some (.cells #[.int .i64 (i : Int)] 3 (0, 0))) (heb : w.heap[eb]? = some (.cells (evA e) 54 (0, 0))) (ne : Nat) (bk : Ev) (hx : s.l[ne]? = some bk) (h2 : ¬ (ne : Int) > (i : Int)) (h3 : qe.hn = e.hn) (h4 : qe.hg = e.hg) (h5 : qe.op = 2) (h6 : bk.y = true) :
    Calls Try.prog 55 #[.agg (clA ⟨qe, qb, qc, (ne : Int)⟩), .pointer (some ⟨ib, 0, none⟩), .pointer (some ⟨eb, 0, none⟩), .pointer (some ⟨sb, 0, none⟩)] w fun r w' => r = .returned (.bool (overE qe bk)) ∧ Below w.heap.size w w' := by
  have hu97 := Try.underlying97
  have hu54 := Try.underlying54
  have hu34 := Try.underlying34
  have hu103 := Try.underlying103
  have g1 : decide ((ne : Int) < 0) = false := decide_eq_false (by omega)
  have g2 : decide ((ne : Int) > (i : Int)) = false := decide_eq_false (by omega)
  have g2n : decide (i < ne) = false := decide_eq_false (by omega)
  have g3 : (qe.hn == e.hn) = true := beq_iff_eq.2 h3
  have g4 : (qe.hg == e.hg) = true := beq_iff_eq.2 h4
  have o2 : (qe.op == 2) = true := beq_iff_eq.2 (by omega)
  have o3 : (qe.op == 3) = false := beq_eq_false_iff_ne.2 (by omega)
  have H6 := Aside0.mk h6
  clear h6
  have hlt := hB.lt
  have hls := blk_lt hsb
  have hli := blk_lt hib
  have hle := blk_lt heb
  have hc := fun i => hB.cell i
  have hcs := fun i => blk_cell hsb i
  have hci := fun i => blk_cell hib i
  have hce := fun i => blk_cell heb i
  obtain ⟨g, cp, rfl, hcp, hgl, hcell⟩ := hB.rl.at_ (fun _ => rfl) hx
  have hkl := (List.getElem?_eq_some_iff.1 hx).1
  have p0 := eq_true (show (0 : Int) ≤ (ne : Int) by omega)
  have p1 := eq_true (show (ne : Int) < (s.l.length : Int) by omega)
  have d0 := hcell 0 (by decide)
  have d1 := hcell 1 (by decide)
  have d2 := hcell 2 (by decide)
  have d3 := hcell 3 (by decide)
  have d4 := hcell 4 (by decide)
  have d5 := hcell 5 (by decide)
  have d6 := hcell 6 (by decide)
  have d7 := hcell 7 (by decide)
  have d8 := hcell 8 (by decide)
  have d9 := hcell 9 (by decide)
  have d10 := hcell 10 (by decide)
  have d11 := hcell 11 (by decide)
  rw [Nat.add_zero] at d0
  have HB := Aside0.mk hB
  have HSB := Aside0.mk hsb
  clear hB hsb hib heb hcell hcp hkl hx h2 h3 h4 h5
  go_enter Try.func55, Try.ntmps55
  go_upto_region 3 with (fail)
  have HQ := Aside0.mk (blk_new w (.cells (clA ⟨qe, qb, qc, (ne : Int)⟩) 103))
  have HD := Aside0.mk (show EvRow w g (ne * 12) bk from ⟨d0, d1, d2, d3, d4, d5, d6, d7, d8, d9, d10, d11⟩)
  clear d0 d1 d2 d3 d4 d5 d6 d7 d8 d9 d10 d11
  have HS3 := Aside0.mk (show S55 (w.alloc (.cells (clA ⟨qe, qb, qc, (ne : Int)⟩) 103)) b sb w.heap.size g (ne * 12) (.slice (some ⟨g, 0, none⟩) s.l.length cp) vv vc m1 m2 ⟨qe, qb, qc, (ne : Int)⟩ bk from ⟨fun i => (HB.out.alloc _).cell i, fun i => blk_cell (blk_alloc HSB.out _) i, fun i => blk_cell HQ.out i, HD.out.below (below_alloc (Below.refl _ _) _)⟩)
  have HBL := Aside0.mk (below_alloc (Below.refl w.heap.size w) (.cells (clA ⟨qe, qb, qc, (ne : Int)⟩) 103))
  have HQ3 := HQ
  refine start_ (n := 10) (S := (fun w' => S55 w' b sb w.heap.size g (ne * 12) (.slice (some ⟨g, 0, none⟩) s.l.length cp) vv vc m1 m2 ⟨qe, qb, qc, (ne : Int)⟩ bk)) (ds := [9]) #[false, false, false, false, false, false, false, false, false, false] (by kernel_rfl) rfl rfl (HS3.out.below (below_drew (Below.refl _ _))) (fun hHeld => ?_)
  refine with_tabW wrongR.tab3 wrongR.bits3 (fun HT_ HW_ => ?_)
  have HS5 := Aside0.mk (HS3.out.below (below_drew (Below.refl _ _)))
  have HB5 := Aside0.mk (below_drew HBL.out)
  have HQ5 := Aside0.mk (show (w.alloc (.cells (clA ⟨qe, qb, qc, (ne : Int)⟩) 103)).drew.heap[w.heap.size]? = _ from HQ.out)
  generalize (w.alloc (.cells (clA ⟨qe, qb, qc, (ne : Int)⟩) 103)).drew = w3 at HS5 HB5 HQ5 hHeld ⊢
  clear HS3 HBL HQ3 HQ hc hcs hci hce hlt hls hli hle
  refine pure_ (i := 4) (N := (some 28)) (v := ?_) (a' := ?_) #[false, false, false, false, true, false, false, false, false, false] rfl rfl (any_of HT_.out (by kernel_rfl)) (fun _ _ _ h => h) (Or.inl ⟨by rfl, ?_⟩) ?_ ?_
  rotate_left
  · intro w'
    go_simp
    with_reducible rfl
  rotate_left
  · simp only [Act.put, List.setIfInBounds_toArray, List.set_cons_zero, List.set_cons_succ, i64_w, i32_w]
    rfl
  refine take_ (i := 0) (N := (some 24)) (v := ?_) (a' := ?_) #[true, false, false, false, true, false, false, false, false, false] rfl rfl (take_ofW HT_.out HW_.out (by kernel_rfl)) (fun _ _ _ h => h) (Or.inl ⟨by rfl, ?_⟩) hHeld ?_ ?_
  rotate_left
  · rintro w' ⟨s0, s1, s2, t0, t1, t2, t3, t4, t5, t6, t7, t8, t9, t10, t11⟩
    go_simp
    with_reducible rfl
  rotate_left
  · simp only [Act.put, List.setIfInBounds_toArray, List.set_cons_zero, List.set_cons_succ, i64_w, i32_w]
    rfl
  refine pure_ (i := 1) (N := (some 25)) (v := ?_) (a' := ?_) #[true, true, false, false, true, false, false, false, false, false] rfl rfl (any_of HT_.out (by kernel_rfl)) (fun _ _ _ h => h) (Or.inl ⟨by rfl, ?_⟩) ?_ ?_
  rotate_left
  · intro w'
    go_simp
    with_reducible rfl
  rotate_left
  · simp only [Act.put, List.setIfInBounds_toArray, List.set_cons_zero, List.set_cons_succ, i64_w, i32_w]
    rfl
  refine pure_ (i := 2) (N := (some 26)) (v := ?_) (a' := ?_) #[true, true, true, false, true, false, false, false, false, false] rfl rfl (any_of HT_.out (by kernel_rfl)) (fun _ _ _ h => h) (Or.inl ⟨by rfl, ?_⟩) ?_ ?_
  rotate_left
  · intro w'
    go_simp
    with_reducible rfl
  rotate_left
  · simp only [Act.put, List.setIfInBounds_toArray, List.set_cons_zero, List.set_cons_succ, i64_w, i32_w]
    rfl
  refine take_ (i := 3) (N := (some 27)) (v := ?_) (a' := ?_) #[true, true, true, true, true, false, false, false, false, false] rfl rfl (take_ofW HT_.out HW_.out (by kernel_rfl)) (fun _ _ _ h => h) (Or.inl ⟨by rfl, ?_⟩) hHeld ?_ ?_
  rotate_left
  · rintro w' ⟨s0, s1, s2, t0, t1, t2, t3, t4, t5, t6, t7, t8, t9, t10, t11⟩
    go_simp
    with_reducible rfl
  rotate_left
  · simp only [Act.put, List.setIfInBounds_toArray, List.set_cons_zero, List.set_cons_succ, i64_w, i32_w]
    rfl
  refine take_ (i := 5) (N := (some 29)) (v := ?_) (a' := ?_) #[true, true, true, true, true, true, false, false, false, false] rfl rfl (take_ofW HT_.out HW_.out (by kernel_rfl)) (fun _ _ _ h => h) (Or.inl ⟨by rfl, ?_⟩) hHeld ?_ ?_
  rotate_left
  · rintro w' ⟨s0, s1, s2, t0, t1, t2, t3, t4, t5, t6, t7, t8, t9, t10, t11⟩
    go_simp
    with_reducible rfl
  rotate_left
  · simp only [Act.put, List.setIfInBounds_toArray, List.set_cons_zero, List.set_cons_succ, i64_w, i32_w]
    rfl
  refine pure_ (i := 6) (N := (some 30)) (v := ?_) (a' := ?_) #[true, true, true, true, true, true, true, false, false, false] rfl rfl (any_of HT_.out (by kernel_rfl)) (fun _ _ _ h => h) (Or.inl ⟨by rfl, ?_⟩) ?_ ?_
  rotate_left
  · intro w'
    go_simp
    with_reducible rfl
  rotate_left
  · simp only [Act.put, List.setIfInBounds_toArray, List.set_cons_zero, List.set_cons_succ, i64_w, i32_w]
    rfl
  refine take_ (i := 7) (N := (some 31)) (v := ?_) (a' := ?_) #[true, true, true, true, true, true, true, true, false, false] rfl rfl (take_ofW HT_.out HW_.out (by kernel_rfl)) (fun _ _ _ h => h) (Or.inl ⟨by rfl, ?_⟩) hHeld ?_ ?_
  rotate_left
  · rintro w' ⟨s0, s1, s2, t0, t1, t2, t3, t4, t5, t6, t7, t8, t9, t10, t11⟩
    go_simp
    with_reducible rfl
  rotate_left
  · simp only [Act.put, List.setIfInBounds_toArray, List.set_cons_zero, List.set_cons_succ, i64_w, i32_w]
    rfl
  refine one_ (i := 8) (N := (some 6)) #[true, true, true, true, true, true, true, true, true, false] rfl rfl (one_of HT_.out (by kernel_rfl)) (by decide) (fun K hK => ?_)
  refine value_ (by rfl) rfl (v := .pointer (some ⟨w3.heap.size, 0, none⟩)) (w1 := w3.alloc (.cells (evA zeroE) 54)) (by go_simp <;> rfl) ?_
  refine hK.out _ _ (HS5.out.below (below_alloc (Below.refl _ _) _)) (fun hHeld => ?_)
  clear hK K
  refine norm_ (a' := ?_) ?_ ?_
  rotate_left
  · show Act.put _ (some 6) _ = _
    simp only [Act.put, List.setIfInBounds_toArray, List.set_cons_zero, List.set_cons_succ, i64_w, i32_w]
    rfl
  refine last_ (i := 9) (N := none) #[true, true, true, true, true, true, true, true, true, true] rfl rfl (one_of HT_.out (by kernel_rfl)) (by decide) (fun K hK => ?_)
  refine skip_ (by rfl) rfl (w1 := w3.alloc (.cells (evA bk) 54)) (by go_simp <;> rfl) ?_
  refine hK.out _ _ ?_
  clear hK K
  refine done_ (done_of HT_.out (by kernel_rfl)) ?_
  clear hHeld HS5 HT_ HW_
  have hq3 := fun i => blk_cell (blk_alloc HQ5.out (.cells (evA bk) 54)) i
  have hl3 := blk_lt HQ5.out
  try have h6 := H6.out
  go_wp2
  go_ret
  exact ⟨by simp [*, overE], by repeat (first | exact HB5.out | apply below_alloc | apply pw_below_drewN)⟩

set_option maxHeartbeats 4000000 in
set_option maxRecDepth 100000 in
theorem wrong1_cancel_n {B b n m1 m2 sb ib eb : Nat} {s : Story} {vl vv vc : Value} (i : Nat) (e qe : Ev) (qb qc : Int) (w : World) (hB : StIs w B b n s vl vv vc m1 m2) (hsb : w.heap[sb]? = some (.cells #[.pointer (some ⟨b, 0, none⟩)] 87 (0, 0))) (hib : w.heap[ib]? = some (.cells #[.int .i64 (i : Int)] 3 (0, 0))) (heb : w.heap[eb]? = some (.cells (evA e) 54 (0, 0))) (ne : Nat) (bk : Ev) (hx : s.l[ne]? = some bk) (h2 : ¬ (ne : Int) > (i : Int)) (h3 : qe.hn = e.hn) (h4 : qe.hg = e.hg) (h5 : qe.op = 2) (h6 : bk.y = false) :
    Calls Try.prog 55 #[.agg (clA ⟨qe, qb, qc, (ne : Int)⟩), .pointer (some ⟨ib, 0, none⟩), .pointer (some ⟨eb, 0, none⟩), .pointer (some ⟨sb, 0, none⟩)] w fun r w' => r = .returned (.bool (overE qe bk)) ∧ Below w.heap.size w w' := by
  have hu97 := Try.underlying97
  have hu54 := Try.underlying54
  have hu34 := Try.underlying34
  have hu103 := Try.underlying103
  have g1 : decide ((ne : Int) < 0) = false := decide_eq_false (by omega)
  have g2 : decide ((ne : Int) > (i : Int)) = false := decide_eq_false (by omega)
  have g2n : decide (i < ne) = false := decide_eq_false (by omega)
  have g3 : (qe.hn == e.hn) = true := beq_iff_eq.2 h3
  have g4 : (qe.hg == e.hg) = true := beq_iff_eq.2 h4
  have o2 : (qe.op == 2) = true := beq_iff_eq.2 (by omega)
  have o3 : (qe.op == 3) = false := beq_eq_false_iff_ne.2 (by omega)
  have H6 := Aside0.mk h6
  clear h6
  have hlt := hB.lt
  have hls := blk_lt hsb
  have hli := blk_lt hib
  have hle := blk_lt heb
  have hc := fun i => hB.cell i
  have hcs := fun i => blk_cell hsb i
  have hci := fun i => blk_cell hib i
  have hce := fun i => blk_cell heb i
  obtain ⟨g, cp, rfl, hcp, hgl, hcell⟩ := hB.rl.at_ (fun _ => rfl) hx
  have hkl := (List.getElem?_eq_some_iff.1 hx).1
  have p0 := eq_true (show (0 : Int) ≤ (ne : Int) by omega)
  have p1 := eq_true (show (ne : Int) < (s.l.length : Int) by omega)
  have d0 := hcell 0 (by decide)
  have d1 := hcell 1 (by decide)
  have d2 := hcell 2 (by decide)
  have d3 := hcell 3 (by decide)
  have d4 := hcell 4 (by decide)
  have d5 := hcell 5 (by decide)
  have d6 := hcell 6 (by decide)
  have d7 := hcell 7 (by decide)
  have d8 := hcell 8 (by decide)
  have d9 := hcell 9 (by decide)
  have d10 := hcell 10 (by decide)
  have d11 := hcell 11 (by decide)
  rw [Nat.add_zero] at d0
  have HB := Aside0.mk hB
  have HSB := Aside0.mk hsb
  clear hB hsb hib heb hcell hcp hkl hx h2 h3 h4 h5
  go_enter Try.func55, Try.ntmps55
  go_upto_region 3 with (fail)
  have HQ := Aside0.mk (blk_new w (.cells (clA ⟨qe, qb, qc, (ne : Int)⟩) 103))
  have HD := Aside0.mk (show EvRow w g (ne * 12) bk from ⟨d0, d1, d2, d3, d4, d5, d6, d7, d8, d9, d10, d11⟩)
  clear d0 d1 d2 d3 d4 d5 d6 d7 d8 d9 d10 d11
  have HS3 := Aside0.mk (show S55 (w.alloc (.cells (clA ⟨qe, qb, qc, (ne : Int)⟩) 103)) b sb w.heap.size g (ne * 12) (.slice (some ⟨g, 0, none⟩) s.l.length cp) vv vc m1 m2 ⟨qe, qb, qc, (ne : Int)⟩ bk from ⟨fun i => (HB.out.alloc _).cell i, fun i => blk_cell (blk_alloc HSB.out _) i, fun i => blk_cell HQ.out i, HD.out.below (below_alloc (Below.refl _ _) _)⟩)
  have HBL := Aside0.mk (below_alloc (Below.refl w.heap.size w) (.cells (clA ⟨qe, qb, qc, (ne : Int)⟩) 103))
  have HQ3 := HQ
  refine start_ (n := 10) (S := (fun w' => S55 w' b sb w.heap.size g (ne * 12) (.slice (some ⟨g, 0, none⟩) s.l.length cp) vv vc m1 m2 ⟨qe, qb, qc, (ne : Int)⟩ bk)) (ds := [9]) #[false, false, false, false, false, false, false, false, false, false] (by kernel_rfl) rfl rfl (HS3.out.below (below_drew (Below.refl _ _))) (fun hHeld => ?_)
  refine with_tabW wrongR.tab3 wrongR.bits3 (fun HT_ HW_ => ?_)
  have HS5 := Aside0.mk (HS3.out.below (below_drew (Below.refl _ _)))
  have HB5 := Aside0.mk (below_drew HBL.out)
  have HQ5 := Aside0.mk (show (w.alloc (.cells (clA ⟨qe, qb, qc, (ne : Int)⟩) 103)).drew.heap[w.heap.size]? = _ from HQ.out)
  generalize (w.alloc (.cells (clA ⟨qe, qb, qc, (ne : Int)⟩) 103)).drew = w3 at HS5 HB5 HQ5 hHeld ⊢
  clear HS3 HBL HQ3 HQ hc hcs hci hce hlt hls hli hle
  refine pure_ (i := 4) (N := (some 28)) (v := ?_) (a' := ?_) #[false, false, false, false, true, false, false, false, false, false] rfl rfl (any_of HT_.out (by kernel_rfl)) (fun _ _ _ h => h) (Or.inl ⟨by rfl, ?_⟩) ?_ ?_
  rotate_left
  · intro w'
    go_simp
    with_reducible rfl
  rotate_left
  · simp only [Act.put, List.setIfInBounds_toArray, List.set_cons_zero, List.set_cons_succ, i64_w, i32_w]
    rfl
  refine take_ (i := 0) (N := (some 24)) (v := ?_) (a' := ?_) #[true, false, false, false, true, false, false, false, false, false] rfl rfl (take_ofW HT_.out HW_.out (by kernel_rfl)) (fun _ _ _ h => h) (Or.inl ⟨by rfl, ?_⟩) hHeld ?_ ?_
  rotate_left
  · rintro w' ⟨s0, s1, s2, t0, t1, t2, t3, t4, t5, t6, t7, t8, t9, t10, t11⟩
    go_simp
    with_reducible rfl
  rotate_left
  · simp only [Act.put, List.setIfInBounds_toArray, List.set_cons_zero, List.set_cons_succ, i64_w, i32_w]
    rfl
  refine pure_ (i := 1) (N := (some 25)) (v := ?_) (a' := ?_) #[true, true, false, false, true, false, false, false, false, false] rfl rfl (any_of HT_.out (by kernel_rfl)) (fun _ _ _ h => h) (Or.inl ⟨by rfl, ?_⟩) ?_ ?_
  rotate_left
  · intro w'
    go_simp
    with_reducible rfl
  rotate_left
  · simp only [Act.put, List.setIfInBounds_toArray, List.set_cons_zero, List.set_cons_succ, i64_w, i32_w]
    rfl
  refine pure_ (i := 2) (N := (some 26)) (v := ?_) (a' := ?_) #[true, true, true, false, true, false, false, false, false, false] rfl rfl (any_of HT_.out (by kernel_rfl)) (fun _ _ _ h => h) (Or.inl ⟨by rfl, ?_⟩) ?_ ?_
  rotate_left
  · intro w'
    go_simp
    with_reducible rfl
  rotate_left
  · simp only [Act.put, List.setIfInBounds_toArray, List.set_cons_zero, List.set_cons_succ, i64_w, i32_w]
    rfl
  refine take_ (i := 3) (N := (some 27)) (v := ?_) (a' := ?_) #[true, true, true, true, true, false, false, false, false, false] rfl rfl (take_ofW HT_.out HW_.out (by kernel_rfl)) (fun _ _ _ h => h) (Or.inl ⟨by rfl, ?_⟩) hHeld ?_ ?_
  rotate_left
  · rintro w' ⟨s0, s1, s2, t0, t1, t2, t3, t4, t5, t6, t7, t8, t9, t10, t11⟩
    go_simp
    with_reducible rfl
  rotate_left
  · simp only [Act.put, List.setIfInBounds_toArray, List.set_cons_zero, List.set_cons_succ, i64_w, i32_w]
    rfl
  refine take_ (i := 5) (N := (some 29)) (v := ?_) (a' := ?_) #[true, true, true, true, true, true, false, false, false, false] rfl rfl (take_ofW HT_.out HW_.out (by kernel_rfl)) (fun _ _ _ h => h) (Or.inl ⟨by rfl, ?_⟩) hHeld ?_ ?_
  rotate_left
  · rintro w' ⟨s0, s1, s2, t0, t1, t2, t3, t4, t5, t6, t7, t8, t9, t10, t11⟩
    go_simp
    with_reducible rfl
  rotate_left
  · simp only [Act.put, List.setIfInBounds_toArray, List.set_cons_zero, List.set_cons_succ, i64_w, i32_w]
    rfl
  refine pure_ (i := 6) (N := (some 30)) (v := ?_) (a' := ?_) #[true, true, true, true, true, true, true, false, false, false] rfl rfl (any_of HT_.out (by kernel_rfl)) (fun _ _ _ h => h) (Or.inl ⟨by rfl, ?_⟩) ?_ ?_
  rotate_left
  · intro w'
    go_simp
    with_reducible rfl
  rotate_left
  · simp only [Act.put, List.setIfInBounds_toArray, List.set_cons_zero, List.set_cons_succ, i64_w, i32_w]
    rfl
  refine take_ (i := 7) (N := (some 31)) (v := ?_) (a' := ?_) #[true, true, true, true, true, true, true, true, false, false] rfl rfl (take_ofW HT_.out HW_.out (by kernel_rfl)) (fun _ _ _ h => h) (Or.inl ⟨by rfl, ?_⟩) hHeld ?_ ?_
  rotate_left
  · rintro w' ⟨s0, s1, s2, t0, t1, t2, t3, t4, t5, t6, t7, t8, t9, t10, t11⟩
    go_simp
    with_reducible rfl
  rotate_left
  · simp only [Act.put, List.setIfInBounds_toArray, List.set_cons_zero, List.set_cons_succ, i64_w, i32_w]
    rfl
  refine one_ (i := 8) (N := (some 6)) #[true, true, true, true, true, true, true, true, true, false] rfl rfl (one_of HT_.out (by kernel_rfl)) (by decide) (fun K hK => ?_)
  refine value_ (by rfl) rfl (v := .pointer (some ⟨w3.heap.size, 0, none⟩)) (w1 := w3.alloc (.cells (evA zeroE) 54)) (by go_simp <;> rfl) ?_
  refine hK.out _ _ (HS5.out.below (below_alloc (Below.refl _ _) _)) (fun hHeld => ?_)
  clear hK K
  refine norm_ (a' := ?_) ?_ ?_
  rotate_left
  · show Act.put _ (some 6) _ = _
    simp only [Act.put, List.setIfInBounds_toArray, List.set_cons_zero, List.set_cons_succ, i64_w, i32_w]
    rfl
  refine last_ (i := 9) (N := none) #[true, true, true, true, true, true, true, true, true, true] rfl rfl (one_of HT_.out (by kernel_rfl)) (by decide) (fun K hK => ?_)
  refine skip_ (by rfl) rfl (w1 := w3.alloc (.cells (evA bk) 54)) (by go_simp <;> rfl) ?_
  refine hK.out _ _ ?_
  clear hK K
  refine done_ (done_of HT_.out (by kernel_rfl)) ?_
  clear hHeld HS5 HT_ HW_
  have hq3 := fun i => blk_cell (blk_alloc HQ5.out (.cells (evA bk) 54)) i
  have hl3 := blk_lt HQ5.out
  try have h6 := H6.out
  go_wp2
  go_ret
  exact ⟨by simp [*, overE], by repeat (first | exact HB5.out | apply below_alloc | apply pw_below_drewN)⟩

set_option maxHeartbeats 4000000 in
set_option maxRecDepth 100000 in
theorem wrong1_rearm_y {B b n m1 m2 sb ib eb : Nat} {s : Story} {vl vv vc : Value} (i : Nat) (e qe : Ev) (qb qc : Int) (w : World) (hB : StIs w B b n s vl vv vc m1 m2) (hsb : w.heap[sb]? = some (.cells #[.pointer (some ⟨b, 0, none⟩)] 87 (0, 0))) (hib : w.heap[ib]? = some (.cells #[.int .i64 (i : Int)] 3 (0, 0))) (heb : w.heap[eb]? = some (.cells (evA e) 54 (0, 0))) (ne : Nat) (bk : Ev) (hx : s.l[ne]? = some bk) (h2 : ¬ (ne : Int) > (i : Int)) (h3 : qe.hn = e.hn) (h4 : qe.hg = e.hg) (h5 : qe.op = 3) (h6 : bk.er = 0) :
    Calls Try.prog 55 #[.agg (clA ⟨qe, qb, qc, (ne : Int)⟩), .pointer (some ⟨ib, 0, none⟩), .pointer (some ⟨eb, 0, none⟩), .pointer (some ⟨sb, 0, none⟩)] w fun r w' => r = .returned (.bool (overE qe bk)) ∧ Below w.heap.size w w' := by
  have hu97 := Try.underlying97
  have hu54 := Try.underlying54
  have hu34 := Try.underlying34
  have hu103 := Try.underlying103
  have g1 : decide ((ne : Int) < 0) = false := decide_eq_false (by omega)
  have g2 : decide ((ne : Int) > (i : Int)) = false := decide_eq_false (by omega)
  have g2n : decide (i < ne) = false := decide_eq_false (by omega)
  have g3 : (qe.hn == e.hn) = true := beq_iff_eq.2 h3
  have g4 : (qe.hg == e.hg) = true := beq_iff_eq.2 h4
  have o2 : (qe.op == 2) = false := beq_eq_false_iff_ne.2 (by omega)
  have o3 : (qe.op == 3) = true := beq_iff_eq.2 (by omega)
  have o9 : (bk.er == 0) = true := beq_iff_eq.2 h6
  have hlt := hB.lt
  have hls := blk_lt hsb
  have hli := blk_lt hib
  have hle := blk_lt heb
  have hc := fun i => hB.cell i
  have hcs := fun i => blk_cell hsb i
  have hci := fun i => blk_cell hib i
  have hce := fun i => blk_cell heb i
  obtain ⟨g, cp, rfl, hcp, hgl, hcell⟩ := hB.rl.at_ (fun _ => rfl) hx
  have hkl := (List.getElem?_eq_some_iff.1 hx).1
  have p0 := eq_true (show (0 : Int) ≤ (ne : Int) by omega)
  have p1 := eq_true (show (ne : Int) < (s.l.length : Int) by omega)
  have d0 := hcell 0 (by decide)
  have d1 := hcell 1 (by decide)
  have d2 := hcell 2 (by decide)
  have d3 := hcell 3 (by decide)
  have d4 := hcell 4 (by decide)
  have d5 := hcell 5 (by decide)
  have d6 := hcell 6 (by decide)
  have d7 := hcell 7 (by decide)
  have d8 := hcell 8 (by decide)
  have d9 := hcell 9 (by decide)
  have d10 := hcell 10 (by decide)
  have d11 := hcell 11 (by decide)
  rw [Nat.add_zero] at d0
  have HB := Aside0.mk hB
  have HSB := Aside0.mk hsb
  clear hB hsb hib heb hcell hcp hkl hx h2 h3 h4 h5 h6
  go_enter Try.func55, Try.ntmps55
  go_upto_region 3 with (fail)
  have HQ := Aside0.mk (blk_new w (.cells (clA ⟨qe, qb, qc, (ne : Int)⟩) 103))
  have HD := Aside0.mk (show EvRow w g (ne * 12) bk from ⟨d0, d1, d2, d3, d4, d5, d6, d7, d8, d9, d10, d11⟩)
  clear d0 d1 d2 d3 d4 d5 d6 d7 d8 d9 d10 d11
  have HS3 := Aside0.mk (show S55 (w.alloc (.cells (clA ⟨qe, qb, qc, (ne : Int)⟩) 103)) b sb w.heap.size g (ne * 12) (.slice (some ⟨g, 0, none⟩) s.l.length cp) vv vc m1 m2 ⟨qe, qb, qc, (ne : Int)⟩ bk from ⟨fun i => (HB.out.alloc _).cell i, fun i => blk_cell (blk_alloc HSB.out _) i, fun i => blk_cell HQ.out i, HD.out.below (below_alloc (Below.refl _ _) _)⟩)
  have HBL := Aside0.mk (below_alloc (Below.refl w.heap.size w) (.cells (clA ⟨qe, qb, qc, (ne : Int)⟩) 103))
  have HQ3 := HQ
  refine start_ (n := 10) (S := (fun w' => S55 w' b sb w.heap.size g (ne * 12) (.slice (some ⟨g, 0, none⟩) s.l.length cp) vv vc m1 m2 ⟨qe, qb, qc, (ne : Int)⟩ bk)) (ds := [9]) #[false, false, false, false, false, false, false, false, false, false] (by kernel_rfl) rfl rfl (HS3.out.below (below_drew (Below.refl _ _))) (fun hHeld => ?_)
  refine with_tabW wrongR.tab3 wrongR.bits3 (fun HT_ HW_ => ?_)
  have HS5 := Aside0.mk (HS3.out.below (below_drew (Below.refl _ _)))
  have HB5 := Aside0.mk (below_drew HBL.out)
  have HQ5 := Aside0.mk (show (w.alloc (.cells (clA ⟨qe, qb, qc, (ne : Int)⟩) 103)).drew.heap[w.heap.size]? = _ from HQ.out)
  generalize (w.alloc (.cells (clA ⟨qe, qb, qc, (ne : Int)⟩) 103)).drew = w3 at HS5 HB5 HQ5 hHeld ⊢
  clear HS3 HBL HQ3 HQ hc hcs hci hce hlt hls hli hle
  refine pure_ (i := 4) (N := (some 28)) (v := ?_) (a' := ?_) #[false, false, false, false, true, false, false, false, false, false] rfl rfl (any_of HT_.out (by kernel_rfl)) (fun _ _ _ h => h) (Or.inl ⟨by rfl, ?_⟩) ?_ ?_
  rotate_left
  · intro w'
    go_simp
    with_reducible rfl
  rotate_left
  · simp only [Act.put, List.setIfInBounds_toArray, List.set_cons_zero, List.set_cons_succ, i64_w, i32_w]
    rfl
  refine take_ (i := 0) (N := (some 24)) (v := ?_) (a' := ?_) #[true, false, false, false, true, false, false, false, false, false] rfl rfl (take_ofW HT_.out HW_.out (by kernel_rfl)) (fun _ _ _ h => h) (Or.inl ⟨by rfl, ?_⟩) hHeld ?_ ?_
  rotate_left
  · rintro w' ⟨s0, s1, s2, t0, t1, t2, t3, t4, t5, t6, t7, t8, t9, t10, t11⟩
    go_simp
    with_reducible rfl
  rotate_left
  · simp only [Act.put, List.setIfInBounds_toArray, List.set_cons_zero, List.set_cons_succ, i64_w, i32_w]
    rfl
  refine pure_ (i := 1) (N := (some 25)) (v := ?_) (a' := ?_) #[true, true, false, false, true, false, false, false, false, false] rfl rfl (any_of HT_.out (by kernel_rfl)) (fun _ _ _ h => h) (Or.inl ⟨by rfl, ?_⟩) ?_ ?_
  rotate_left
  · intro w'
    go_simp
    with_reducible rfl
  rotate_left
  · simp only [Act.put, List.setIfInBounds_toArray, List.set_cons_zero, List.set_cons_succ, i64_w, i32_w]
    rfl
  refine pure_ (i := 2) (N := (some 26)) (v := ?_) (a' := ?_) #[true, true, true, false, true, false, false, false, false, false] rfl rfl (any_of HT_.out (by kernel_rfl)) (fun _ _ _ h => h) (Or.inl ⟨by rfl, ?_⟩) ?_ ?_
  rotate_left
  · intro w'
    go_simp
    with_reducible rfl
  rotate_left
  · simp only [Act.put, List.setIfInBounds_toArray, List.set_cons_zero, List.set_cons_succ, i64_w, i32_w]
    rfl
  refine take_ (i := 3) (N := (some 27)) (v := ?_) (a' := ?_) #[true, true, true, true, true, false, false, false, false, false] rfl rfl (take_ofW HT_.out HW_.out (by kernel_rfl)) (fun _ _ _ h => h) (Or.inl ⟨by rfl, ?_⟩) hHeld ?_ ?_
  rotate_left
  · rintro w' ⟨s0, s1, s2, t0, t1, t2, t3, t4, t5, t6, t7, t8, t9, t10, t11⟩
    go_simp
    with_reducible rfl
  rotate_left
  · simp only [Act.put, List.setIfInBounds_toArray, List.set_cons_zero, List.set_cons_succ, i64_w, i32_w]
    rfl
  refine take_ (i := 5) (N := (some 29)) (v := ?_) (a' := ?_) #[true, true, true, true, true, true, false, false, false, false] rfl rfl (take_ofW HT_.out HW_.out (by kernel_rfl)) (fun _ _ _ h => h) (Or.inl ⟨by rfl, ?_⟩) hHeld ?_ ?_
  rotate_left
  · rintro w' ⟨s0, s1, s2, t0, t1, t2, t3, t4, t5, t6, t7, t8, t9, t10, t11⟩
    go_simp
    with_reducible rfl
  rotate_left
  · simp only [Act.put, List.setIfInBounds_toArray, List.set_cons_zero, List.set_cons_succ, i64_w, i32_w]
    rfl
  refine pure_ (i := 6) (N := (some 30)) (v := ?_) (a' := ?_) #[true, true, true, true, true, true, true, false, false, false] rfl rfl (any_of HT_.out (by kernel_rfl)) (fun _ _ _ h => h) (Or.inl ⟨by rfl, ?_⟩) ?_ ?_
  rotate_left
  · intro w'
    go_simp
    with_reducible rfl
  rotate_left
  · simp only [Act.put, List.setIfInBounds_toArray, List.set_cons_zero, List.set_cons_succ, i64_w, i32_w]
    rfl
  refine take_ (i := 7) (N := (some 31)) (v := ?_) (a' := ?_) #[true, true, true, true, true, true, true, true, false, false] rfl rfl (take_ofW HT_.out HW_.out (by kernel_rfl)) (fun _ _ _ h => h) (Or.inl ⟨by rfl, ?_⟩) hHeld ?_ ?_
  rotate_left
  · rintro w' ⟨s0, s1, s2, t0, t1, t2, t3, t4, t5, t6, t7, t8, t9, t10, t11⟩
    go_simp
    with_reducible rfl
  rotate_left
  · simp only [Act.put, List.setIfInBounds_toArray, List.set_cons_zero, List.set_cons_succ, i64_w, i32_w]
    rfl
  refine one_ (i := 8) (N := (some 6)) #[true, true, true, true, true, true, true, true, true, false] rfl rfl (one_of HT_.out (by kernel_rfl)) (by decide) (fun K hK => ?_)
  refine value_ (by rfl) rfl (v := .pointer (some ⟨w3.heap.size, 0, none⟩)) (w1 := w3.alloc (.cells (evA zeroE) 54)) (by go_simp <;> rfl) ?_
  refine hK.out _ _ (HS5.out.below (below_alloc (Below.refl _ _) _)) (fun hHeld => ?_)
  clear hK K
  refine norm_ (a' := ?_) ?_ ?_
  rotate_left
  · show Act.put _ (some 6) _ = _
    simp only [Act.put, List.setIfInBounds_toArray, List.set_cons_zero, List.set_cons_succ, i64_w, i32_w]
    rfl
  refine last_ (i := 9) (N := none) #[true, true, true, true, true, true, true, true, true, true] rfl rfl (one_of HT_.out (by kernel_rfl)) (by decide) (fun K hK => ?_)
  refine skip_ (by rfl) rfl (w1 := w3.alloc (.cells (evA bk) 54)) (by go_simp <;> rfl) ?_
  refine hK.out _ _ ?_
  clear hK K
  refine done_ (done_of HT_.out (by kernel_rfl)) ?_
  clear hHeld HS5 HT_ HW_
  have hq3 := fun i => blk_cell (blk_alloc HQ5.out (.cells (evA bk) 54)) i
  have hl3 := blk_lt HQ5.out
  try have h6 := H6.out
  go_wp2
  go_ret
  exact ⟨by simp [*, overE], by repeat (first | exact HB5.out | apply below_alloc | apply pw_below_drewN)⟩

set_option maxHeartbeats 4000000 in
set_option maxRecDepth 100000 in
theorem wrong1_rearm_n {B b n m1 m2 sb ib eb : Nat} {s : Story} {vl vv vc : Value} (i : Nat) (e qe : Ev) (qb qc : Int) (w : World) (hB : StIs w B b n s vl vv vc m1 m2) (hsb : w.heap[sb]? = some (.cells #[.pointer (some ⟨b, 0, none⟩)] 87 (0, 0))) (hib : w.heap[ib]? = some (.cells #[.int .i64 (i : Int)] 3 (0, 0))) (heb : w.heap[eb]? = some (.cells (evA e) 54 (0, 0))) (ne : Nat) (bk : Ev) (hx : s.l[ne]? = some bk) (h2 : ¬ (ne : Int) > (i : Int)) (h3 : qe.hn = e.hn) (h4 : qe.hg = e.hg) (h5 : qe.op = 3) (h6 : ¬ bk.er = 0) :
    Calls Try.prog 55 #[.agg (clA ⟨qe, qb, qc, (ne : Int)⟩), .pointer (some ⟨ib, 0, none⟩), .pointer (some ⟨eb, 0, none⟩), .pointer (some ⟨sb, 0, none⟩)] w fun r w' => r = .returned (.bool (overE qe bk)) ∧ Below w.heap.size w w' := by
  have hu97 := Try.underlying97
  have hu54 := Try.underlying54
  have hu34 := Try.underlying34
  have hu103 := Try.underlying103
  have g1 : decide ((ne : Int) < 0) = false := decide_eq_false (by omega)
  have g2 : decide ((ne : Int) > (i : Int)) = false := decide_eq_false (by omega)
  have g2n : decide (i < ne) = false := decide_eq_false (by omega)
  have g3 : (qe.hn == e.hn) = true := beq_iff_eq.2 h3
  have g4 : (qe.hg == e.hg) = true := beq_iff_eq.2 h4
  have o2 : (qe.op == 2) = false := beq_eq_false_iff_ne.2 (by omega)
  have o3 : (qe.op == 3) = true := beq_iff_eq.2 (by omega)
  have o9 : (bk.er == 0) = false := beq_eq_false_iff_ne.2 h6
  have hlt := hB.lt
  have hls := blk_lt hsb
  have hli := blk_lt hib
  have hle := blk_lt heb
  have hc := fun i => hB.cell i
  have hcs := fun i => blk_cell hsb i
  have hci := fun i => blk_cell hib i
  have hce := fun i => blk_cell heb i
  obtain ⟨g, cp, rfl, hcp, hgl, hcell⟩ := hB.rl.at_ (fun _ => rfl) hx
  have hkl := (List.getElem?_eq_some_iff.1 hx).1
  have p0 := eq_true (show (0 : Int) ≤ (ne : Int) by omega)
  have p1 := eq_true (show (ne : Int) < (s.l.length : Int) by omega)
  have d0 := hcell 0 (by decide)
  have d1 := hcell 1 (by decide)
  have d2 := hcell 2 (by decide)
  have d3 := hcell 3 (by decide)
  have d4 := hcell 4 (by decide)
  have d5 := hcell 5 (by decide)
  have d6 := hcell 6 (by decide)
  have d7 := hcell 7 (by decide)
  have d8 := hcell 8 (by decide)
  have d9 := hcell 9 (by decide)
  have d10 := hcell 10 (by decide)
  have d11 := hcell 11 (by decide)
  rw [Nat.add_zero] at d0
  have HB := Aside0.mk hB
  have HSB := Aside0.mk hsb
  clear hB hsb hib heb hcell hcp hkl hx h2 h3 h4 h5 h6
  go_enter Try.func55, Try.ntmps55
  go_upto_region 3 with (fail)
  have HQ := Aside0.mk (blk_new w (.cells (clA ⟨qe, qb, qc, (ne : Int)⟩) 103))
  have HD := Aside0.mk (show EvRow w g (ne * 12) bk from ⟨d0, d1, d2, d3, d4, d5, d6, d7, d8, d9, d10, d11⟩)
  clear d0 d1 d2 d3 d4 d5 d6 d7 d8 d9 d10 d11
  have HS3 := Aside0.mk (show S55 (w.alloc (.cells (clA ⟨qe, qb, qc, (ne : Int)⟩) 103)) b sb w.heap.size g (ne * 12) (.slice (some ⟨g, 0, none⟩) s.l.length cp) vv vc m1 m2 ⟨qe, qb, qc, (ne : Int)⟩ bk from ⟨fun i => (HB.out.alloc _).cell i, fun i => blk_cell (blk_alloc HSB.out _) i, fun i => blk_cell HQ.out i, HD.out.below (below_alloc (Below.refl _ _) _)⟩)
  have HBL := Aside0.mk (below_alloc (Below.refl w.heap.size w) (.cells (clA ⟨qe, qb, qc, (ne : Int)⟩) 103))
  have HQ3 := HQ
  refine start_ (n := 10) (S := (fun w' => S55 w' b sb w.heap.size g (ne * 12) (.slice (some ⟨g, 0, none⟩) s.l.length cp) vv vc m1 m2 ⟨qe, qb, qc, (ne : Int)⟩ bk)) (ds := [9]) #[false, false, false, false, false, false, false, false, false, false] (by kernel_rfl) rfl rfl (HS3.out.below (below_drew (Below.refl _ _))) (fun hHeld => ?_)
  refine with_tabW wrongR.tab3 wrongR.bits3 (fun HT_ HW_ => ?_)
  have HS5 := Aside0.mk (HS3.out.below (below_drew (Below.refl _ _)))
  have HB5 := Aside0.mk (below_drew HBL.out)
  have HQ5 := Aside0.mk (show (w.alloc (.cells (clA ⟨qe, qb, qc, (ne : Int)⟩) 103)).drew.heap[w.heap.size]? = _ from HQ.out)
  generalize (w.alloc (.cells (clA ⟨qe, qb, qc, (ne : Int)⟩) 103)).drew = w3 at HS5 HB5 HQ5 hHeld ⊢
  clear HS3 HBL HQ3 HQ hc hcs hci hce hlt hls hli hle
  refine pure_ (i := 4) (N := (some 28)) (v := ?_) (a' := ?_) #[false, false, false, false, true, false, false, false, false, false] rfl rfl (any_of HT_.out (by kernel_rfl)) (fun _ _ _ h => h) (Or.inl ⟨by rfl, ?_⟩) ?_ ?_
  rotate_left
  · intro w'
    go_simp
    with_reducible rfl
  rotate_left
  · simp only [Act.put, List.setIfInBounds_toArray, List.set_cons_zero, List.set_cons_succ, i64_w, i32_w]
    rfl
  refine take_ (i := 0) (N := (some 24)) (v := ?_) (a' := ?_) #[true, false, false, false, true, false, false, false, false, false] rfl rfl (take_ofW HT_.out HW_.out (by kernel_rfl)) (fun _ _ _ h => h) (Or.inl ⟨by rfl, ?_⟩) hHeld ?_ ?_
  rotate_left
  · rintro w' ⟨s0, s1, s2, t0, t1, t2, t3, t4, t5, t6, t7, t8, t9, t10, t11⟩
    go_simp
    with_reducible rfl
  rotate_left
  · simp only [Act.put, List.setIfInBounds_toArray, List.set_cons_zero, List.set_cons_succ, i64_w, i32_w]
    rfl
  refine pure_ (i := 1) (N := (some 25)) (v := ?_) (a' := ?_) #[true, true, false, false, true, false, false, false, false, false] rfl rfl (any_of HT_.out (by kernel_rfl)) (fun _ _ _ h => h) (Or.inl ⟨by rfl, ?_⟩) ?_ ?_
  rotate_left
  · intro w'
    go_simp
    with_reducible rfl
  rotate_left
  · simp only [Act.put, List.setIfInBounds_toArray, List.set_cons_zero, List.set_cons_succ, i64_w, i32_w]
    rfl
  refine pure_ (i := 2) (N := (some 26)) (v := ?_) (a' := ?_) #[true, true, true, false, true, false, false, false, false, false] rfl rfl (any_of HT_.out (by kernel_rfl)) (fun _ _ _ h => h) (Or.inl ⟨by rfl, ?_⟩) ?_ ?_
  rotate_left
  · intro w'
    go_simp
    with_reducible rfl
  rotate_left
  · simp only [Act.put, List.setIfInBounds_toArray, List.set_cons_zero, List.set_cons_succ, i64_w, i32_w]
    rfl
  refine take_ (i := 3) (N := (some 27)) (v := ?_) (a' := ?_) #[true, true, true, true, true, false, false, false, false, false] rfl rfl (take_ofW HT_.out HW_.out (by kernel_rfl)) (fun _ _ _ h => h) (Or.inl ⟨by rfl, ?_⟩) hHeld ?_ ?_
  rotate_left
  · rintro w' ⟨s0, s1, s2, t0, t1, t2, t3, t4, t5, t6, t7, t8, t9, t10, t11⟩
    go_simp
    with_reducible rfl
  rotate_left
  · simp only [Act.put, List.setIfInBounds_toArray, List.set_cons_zero, List.set_cons_succ, i64_w, i32_w]
    rfl
  refine take_ (i := 5) (N := (some 29)) (v := ?_) (a' := ?_) #[true, true, true, true, true, true, false, false, false, false] rfl rfl (take_ofW HT_.out HW_.out (by kernel_rfl)) (fun _ _ _ h => h) (Or.inl ⟨by rfl, ?_⟩) hHeld ?_ ?_
  rotate_left
  · rintro w' ⟨s0, s1, s2, t0, t1, t2, t3, t4, t5, t6, t7, t8, t9, t10, t11⟩
    go_simp
    with_reducible rfl
  rotate_left
  · simp only [Act.put, List.setIfInBounds_toArray, List.set_cons_zero, List.set_cons_succ, i64_w, i32_w]
    rfl
  refine pure_ (i := 6) (N := (some 30)) (v := ?_) (a' := ?_) #[true, true, true, true, true, true, true, false, false, false] rfl rfl (any_of HT_.out (by kernel_rfl)) (fun _ _ _ h => h) (Or.inl ⟨by rfl, ?_⟩) ?_ ?_
  rotate_left
  · intro w'
    go_simp
    with_reducible rfl
  rotate_left
  · simp only [Act.put, List.setIfInBounds_toArray, List.set_cons_zero, List.set_cons_succ, i64_w, i32_w]
    rfl
  refine take_ (i := 7) (N := (some 31)) (v := ?_) (a' := ?_) #[true, true, true, true, true, true, true, true, false, false] rfl rfl (take_ofW HT_.out HW_.out (by kernel_rfl)) (fun _ _ _ h => h) (Or.inl ⟨by rfl, ?_⟩) hHeld ?_ ?_
  rotate_left
  · rintro w' ⟨s0, s1, s2, t0, t1, t2, t3, t4, t5, t6, t7, t8, t9, t10, t11⟩
    go_simp
    with_reducible rfl
  rotate_left
  · simp only [Act.put, List.setIfInBounds_toArray, List.set_cons_zero, List.set_cons_succ, i64_w, i32_w]
    rfl
  refine one_ (i := 8) (N := (some 6)) #[true, true, true, true, true, true, true, true, true, false] rfl rfl (one_of HT_.out (by kernel_rfl)) (by decide) (fun K hK => ?_)
  refine value_ (by rfl) rfl (v := .pointer (some ⟨w3.heap.size, 0, none⟩)) (w1 := w3.alloc (.cells (evA zeroE) 54)) (by go_simp <;> rfl) ?_
  refine hK.out _ _ (HS5.out.below (below_alloc (Below.refl _ _) _)) (fun hHeld => ?_)
  clear hK K
  refine norm_ (a' := ?_) ?_ ?_
  rotate_left
  · show Act.put _ (some 6) _ = _
    simp only [Act.put, List.setIfInBounds_toArray, List.set_cons_zero, List.set_cons_succ, i64_w, i32_w]
    rfl
  refine last_ (i := 9) (N := none) #[true, true, true, true, true, true, true, true, true, true] rfl rfl (one_of HT_.out (by kernel_rfl)) (by decide) (fun K hK => ?_)
  refine skip_ (by rfl) rfl (w1 := w3.alloc (.cells (evA bk) 54)) (by go_simp <;> rfl) ?_
  refine hK.out _ _ ?_
  clear hK K
  refine done_ (done_of HT_.out (by kernel_rfl)) ?_
  clear hHeld HS5 HT_ HW_
  have hq3 := fun i => blk_cell (blk_alloc HQ5.out (.cells (evA bk) 54)) i
  have hl3 := blk_lt HQ5.out
  try have h6 := H6.out
  go_wp2
  go_ret
  exact ⟨by simp [*, overE], by repeat (first | exact HB5.out | apply below_alloc | apply pw_below_drewN)⟩

set_option maxHeartbeats 4000000 in
set_option maxRecDepth 100000 in
theorem wrong1_no {B b n m1 m2 sb ib eb : Nat} {s : Story} {vl vv vc : Value} (i : Nat) (e qe : Ev) (qb qc : Int) (w : World) (hB : StIs w B b n s vl vv vc m1 m2) (hsb : w.heap[sb]? = some (.cells #[.pointer (some ⟨b, 0, none⟩)] 87 (0, 0))) (hib : w.heap[ib]? = some (.cells #[.int .i64 (i : Int)] 3 (0, 0))) (heb : w.heap[eb]? = some (.cells (evA e) 54 (0, 0))) (ne : Nat) (bk : Ev) (hx : s.l[ne]? = some bk) (h2 : ¬ (ne : Int) > (i : Int)) (h3 : qe.hn = e.hn) (h4 : qe.hg = e.hg) (h5 : qe.op ≠ 2) (h6 : qe.op ≠ 3) :
    Calls Try.prog 55 #[.agg (clA ⟨qe, qb, qc, (ne : Int)⟩), .pointer (some ⟨ib, 0, none⟩), .pointer (some ⟨eb, 0, none⟩), .pointer (some ⟨sb, 0, none⟩)] w fun r w' => r = .returned (.bool (overE qe bk)) ∧ Below w.heap.size w w' := by
  have hu97 := Try.underlying97
  have hu54 := Try.underlying54
  have hu34 := Try.underlying34
  have hu103 := Try.underlying103
  have g1 : decide ((ne : Int) < 0) = false := decide_eq_false (by omega)
  have g2 : decide ((ne : Int) > (i : Int)) = false := decide_eq_false (by omega)
  have g2n : decide (i < ne) = false := decide_eq_false (by omega)
  have g3 : (qe.hn == e.hn) = true := beq_iff_eq.2 h3
  have g4 : (qe.hg == e.hg) = true := beq_iff_eq.2 h4
  have o2 : (qe.op == 2) = false := beq_eq_false_iff_ne.2 (by omega)
  have o3 : (qe.op == 3) = false := beq_eq_false_iff_ne.2 (by omega)
  have hlt := hB.lt
  have hls := blk_lt hsb
  have hli := blk_lt hib
  have hle := blk_lt heb
  have hc := fun i => hB.cell i
  have hcs := fun i => blk_cell hsb i
  have hci := fun i => blk_cell hib i
  have hce := fun i => blk_cell heb i
  obtain ⟨g, cp, rfl, hcp, hgl, hcell⟩ := hB.rl.at_ (fun _ => rfl) hx
  have hkl := (List.getElem?_eq_some_iff.1 hx).1
  have p0 := eq_true (show (0 : Int) ≤ (ne : Int) by omega)
  have p1 := eq_true (show (ne : Int) < (s.l.length : Int) by omega)
  have d0 := hcell 0 (by decide)
  have d1 := hcell 1 (by decide)
  have d2 := hcell 2 (by decide)
  have d3 := hcell 3 (by decide)
  have d4 := hcell 4 (by decide)
  have d5 := hcell 5 (by decide)
  have d6 := hcell 6 (by decide)
  have d7 := hcell 7 (by decide)
  have d8 := hcell 8 (by decide)
  have d9 := hcell 9 (by decide)
  have d10 := hcell 10 (by decide)
  have d11 := hcell 11 (by decide)
  rw [Nat.add_zero] at d0
  have HB := Aside0.mk hB
  have HSB := Aside0.mk hsb
  clear hB hsb hib heb hcell hcp hkl hx h2 h3 h4 h5 h6
  go_enter Try.func55, Try.ntmps55
  go_upto_region 3 with (fail)
  have HQ := Aside0.mk (blk_new w (.cells (clA ⟨qe, qb, qc, (ne : Int)⟩) 103))
  have HD := Aside0.mk (show EvRow w g (ne * 12) bk from ⟨d0, d1, d2, d3, d4, d5, d6, d7, d8, d9, d10, d11⟩)
  clear d0 d1 d2 d3 d4 d5 d6 d7 d8 d9 d10 d11
  have HS3 := Aside0.mk (show S55 (w.alloc (.cells (clA ⟨qe, qb, qc, (ne : Int)⟩) 103)) b sb w.heap.size g (ne * 12) (.slice (some ⟨g, 0, none⟩) s.l.length cp) vv vc m1 m2 ⟨qe, qb, qc, (ne : Int)⟩ bk from ⟨fun i => (HB.out.alloc _).cell i, fun i => blk_cell (blk_alloc HSB.out _) i, fun i => blk_cell HQ.out i, HD.out.below (below_alloc (Below.refl _ _) _)⟩)
  have HBL := Aside0.mk (below_alloc (Below.refl w.heap.size w) (.cells (clA ⟨qe, qb, qc, (ne : Int)⟩) 103))
  have HQ3 := HQ
  refine start_ (n := 10) (S := (fun w' => S55 w' b sb w.heap.size g (ne * 12) (.slice (some ⟨g, 0, none⟩) s.l.length cp) vv vc m1 m2 ⟨qe, qb, qc, (ne : Int)⟩ bk)) (ds := [9]) #[false, false, false, false, false, false, false, false, false, false] (by kernel_rfl) rfl rfl (HS3.out.below (below_drew (Below.refl _ _))) (fun hHeld => ?_)
  refine with_tabW wrongR.tab3 wrongR.bits3 (fun HT_ HW_ => ?_)
  have HS5 := Aside0.mk (HS3.out.below (below_drew (Below.refl _ _)))
  have HB5 := Aside0.mk (below_drew HBL.out)
  have HQ5 := Aside0.mk (show (w.alloc (.cells (clA ⟨qe, qb, qc, (ne : Int)⟩) 103)).drew.heap[w.heap.size]? = _ from HQ.out)
  generalize (w.alloc (.cells (clA ⟨qe, qb, qc, (ne : Int)⟩) 103)).drew = w3 at HS5 HB5 HQ5 hHeld ⊢
  clear HS3 HBL HQ3 HQ hc hcs hci hce hlt hls hli hle
  refine pure_ (i := 4) (N := (some 28)) (v := ?_) (a' := ?_) #[false, false, false, false, true, false, false, false, false, false] rfl rfl (any_of HT_.out (by kernel_rfl)) (fun _ _ _ h => h) (Or.inl ⟨by rfl, ?_⟩) ?_ ?_
  rotate_left
  · intro w'
    go_simp
    with_reducible rfl
  rotate_left
  · simp only [Act.put, List.setIfInBounds_toArray, List.set_cons_zero, List.set_cons_succ, i64_w, i32_w]
    rfl
  refine take_ (i := 0) (N := (some 24)) (v := ?_) (a' := ?_) #[true, false, false, false, true, false, false, false, false, false] rfl rfl (take_ofW HT_.out HW_.out (by kernel_rfl)) (fun _ _ _ h => h) (Or.inl ⟨by rfl, ?_⟩) hHeld ?_ ?_
  rotate_left
  · rintro w' ⟨s0, s1, s2, t0, t1, t2, t3, t4, t5, t6, t7, t8, t9, t10, t11⟩
    go_simp
    with_reducible rfl
  rotate_left
  · simp only [Act.put, List.setIfInBounds_toArray, List.set_cons_zero, List.set_cons_succ, i64_w, i32_w]
    rfl
  refine pure_ (i := 1) (N := (some 25)) (v := ?_) (a' := ?_) #[true, true, false, false, true, false, false, false, false, false] rfl rfl (any_of HT_.out (by kernel_rfl)) (fun _ _ _ h => h) (Or.inl ⟨by rfl, ?_⟩) ?_ ?_
  rotate_left
  · intro w'
    go_simp
    with_reducible rfl
  rotate_left
  · simp only [Act.put, List.setIfInBounds_toArray, List.set_cons_zero, List.set_cons_succ, i64_w, i32_w]
    rfl
  refine pure_ (i := 2) (N := (some 26)) (v := ?_) (a' := ?_) #[true, true, true, false, true, false, false, false, false, false] rfl rfl (any_of HT_.out (by kernel_rfl)) (fun _ _ _ h => h) (Or.inl ⟨by rfl, ?_⟩) ?_ ?_
  rotate_left
  · intro w'
    go_simp
    with_reducible rfl
  rotate_left
  · simp only [Act.put, List.setIfInBounds_toArray, List.set_cons_zero, List.set_cons_succ, i64_w, i32_w]
    rfl
  refine take_ (i := 3) (N := (some 27)) (v := ?_) (a' := ?_) #[true, true, true, true, true, false, false, false, false, false] rfl rfl (take_ofW HT_.out HW_.out (by kernel_rfl)) (fun _ _ _ h => h) (Or.inl ⟨by rfl, ?_⟩) hHeld ?_ ?_
  rotate_left
  · rintro w' ⟨s0, s1, s2, t0, t1, t2, t3, t4, t5, t6, t7, t8, t9, t10, t11⟩
    go_simp
    with_reducible rfl
  rotate_left
  · simp only [Act.put, List.setIfInBounds_toArray, List.set_cons_zero, List.set_cons_succ, i64_w, i32_w]
    rfl
  refine take_ (i := 5) (N := (some 29)) (v := ?_) (a' := ?_) #[true, true, true, true, true, true, false, false, false, false] rfl rfl (take_ofW HT_.out HW_.out (by kernel_rfl)) (fun _ _ _ h => h) (Or.inl ⟨by rfl, ?_⟩) hHeld ?_ ?_
  rotate_left
  · rintro w' ⟨s0, s1, s2, t0, t1, t2, t3, t4, t5, t6, t7, t8, t9, t10, t11⟩
    go_simp
    with_reducible rfl
  rotate_left
  · simp only [Act.put, List.setIfInBounds_toArray, List.set_cons_zero, List.set_cons_succ, i64_w, i32_w]
    rfl
  refine pure_ (i := 6) (N := (some 30)) (v := ?_) (a' := ?_) #[true, true, true, true, true, true, true, false, false, false] rfl rfl (any_of HT_.out (by kernel_rfl)) (fun _ _ _ h => h) (Or.inl ⟨by rfl, ?_⟩) ?_ ?_
  rotate_left
  · intro w'
    go_simp
    with_reducible rfl
  rotate_left
  · simp only [Act.put, List.setIfInBounds_toArray, List.set_cons_zero, List.set_cons_succ, i64_w, i32_w]
    rfl
  refine take_ (i := 7) (N := (some 31)) (v := ?_) (a' := ?_) #[true, true, true, true, true, true, true, true, false, false] rfl rfl (take_ofW HT_.out HW_.out (by kernel_rfl)) (fun _ _ _ h => h) (Or.inl ⟨by rfl, ?_⟩) hHeld ?_ ?_
  rotate_left
  · rintro w' ⟨s0, s1, s2, t0, t1, t2, t3, t4, t5, t6, t7, t8, t9, t10, t11⟩
    go_simp
    with_reducible rfl
  rotate_left
  · simp only [Act.put, List.setIfInBounds_toArray, List.set_cons_zero, List.set_cons_succ, i64_w, i32_w]
    rfl
  refine one_ (i := 8) (N := (some 6)) #[true, true, true, true, true, true, true, true, true, false] rfl rfl (one_of HT_.out (by kernel_rfl)) (by decide) (fun K hK => ?_)
  refine value_ (by rfl) rfl (v := .pointer (some ⟨w3.heap.size, 0, none⟩)) (w1 := w3.alloc (.cells (evA zeroE) 54)) (by go_simp <;> rfl) ?_
  refine hK.out _ _ (HS5.out.below (below_alloc (Below.refl _ _) _)) (fun hHeld => ?_)
  clear hK K
  refine norm_ (a' := ?_) ?_ ?_
  rotate_left
  · show Act.put _ (some 6) _ = _
    simp only [Act.put, List.setIfInBounds_toArray, List.set_cons_zero, List.set_cons_succ, i64_w, i32_w]
    rfl
  refine last_ (i := 9) (N := none) #[true, true, true, true, true, true, true, true, true, true] rfl rfl (one_of HT_.out (by kernel_rfl)) (by decide) (fun K hK => ?_)
  refine skip_ (by rfl) rfl (w1 := w3.alloc (.cells (evA bk) 54)) (by go_simp <;> rfl) ?_
  refine hK.out _ _ ?_
  clear hK K
  refine done_ (done_of HT_.out (by kernel_rfl)) ?_
  clear hHeld HS5 HT_ HW_
  have hq3 := fun i => blk_cell (blk_alloc HQ5.out (.cells (evA bk) 54)) i
  have hl3 := blk_lt HQ5.out
  try have h6 := H6.out
  go_wp2
  go_ret
  exact ⟨by simp [*, overE], by repeat (first | exact HB5.out | apply below_alloc | apply pw_below_drewN)⟩

theorem wrong1_any {B b n m1 m2 sb ib eb : Nat} {s : Story} {vl vv vc : Value} (i : Nat) (e : Ev) (q : Cl) (w : World) (hB : StIs w B b n s vl vv vc m1 m2) (hsb : w.heap[sb]? = some (.cells #[.pointer (some ⟨b, 0, none⟩)] 87 (0, 0))) (hib : w.heap[ib]? = some (.cells #[.int .i64 (i : Int)] 3 (0, 0))) (heb : w.heap[eb]? = some (.cells (evA e) 54 (0, 0))) (hi : i < s.l.length) :
    Calls Try.prog 55 #[.agg (clA q), .pointer (some ⟨ib, 0, none⟩), .pointer (some ⟨eb, 0, none⟩), .pointer (some ⟨sb, 0, none⟩)] w fun r w' => r = .returned (.bool (wrongC1 s i e q)) ∧ Below w.heap.size w w' := by
  obtain ⟨qe, qb, qc, qn⟩ := q
  unfold wrongC1
  simp only
  by_cases h1 : qn < 0
  · rw [if_pos (.inl h1)]; exact wrong1_open i e qe qb qc qn w hB hsb hib heb h1
  by_cases h2 : qn > (i : Int)
  · rw [if_pos (.inr (.inl h2))]; exact wrong1_later i e qe qb qc qn w hB hsb hib heb h1 h2
  by_cases h3 : qe.hn = e.hn
  · by_cases h4 : qe.hg = e.hg
    · obtain ⟨ne, rfl⟩ := Int.eq_ofNat_of_zero_le (show 0 ≤ qn by omega)
      have hlt : ne < s.l.length := by omega
      have hx : s.l[ne]? = some s.l[ne] := List.getElem?_eq_getElem hlt
      rw [if_neg (by rintro (z | z | z); exact h1 z; exact h2 z; exact z (Prod.ext h3 h4)), Int.toNat_natCast, List.getD_eq_getElem?_getD, hx, Option.getD_some]
      by_cases o2 : qe.op = 2
      · cases hy : s.l[ne].y with
        | true => exact wrong1_cancel_y i e qe qb qc w hB hsb hib heb ne _ hx h2 h3 h4 o2 hy
        | false => exact wrong1_cancel_n i e qe qb qc w hB hsb hib heb ne _ hx h2 h3 h4 o2 hy
      by_cases o3 : qe.op = 3
      · by_cases he : s.l[ne].er = 0
        · exact wrong1_rearm_y i e qe qb qc w hB hsb hib heb ne _ hx h2 h3 h4 o3 he
        · exact wrong1_rearm_n i e qe qb qc w hB hsb hib heb ne _ hx h2 h3 h4 o3 he
      exact wrong1_no i e qe qb qc w hB hsb hib heb ne _ hx h2 h3 h4 o2 o3
    · rw [if_pos (.inr (.inr (fun z => h4 (congrArg Prod.snd z))))]; exact wrong1_other2 i e qe qb qc qn w hB hsb hib heb h1 h2 h3 h4
  · rw [if_pos (.inr (.inr (fun z => h3 (congrArg Prod.fst z))))]; exact wrong1_other1 i e qe qb qc qn w hB hsb hib heb h1 h2 h3

set_option maxHeartbeats 4000000 in
set_option maxRecDepth 100000 in
theorem some_wrong {B : Nat} {v : Value} {l : List Cl} (cap : Array Value) (p : Cl → Bool) (J : World → Prop) (w : World) (hr : RowIs w B 103 15 clA v l) (hl : l.length ≤ 1000000) (h0 : J w) (hJ : ∀ W W', J W → Below W.heap.size W W' → J W')
    (hcall : ∀ x W, x ∈ l → J W → Calls Try.prog 55 (#[.agg (clA x)] ++ cap) W fun r W' => r = .returned (.bool (p x)) ∧ Below W.heap.size W W') :
    Calls Try.prog 54 #[v, .func (.func 55) #[] cap] w fun r w' => r = .returned (.bool (l.any p)) ∧ Below w.heap.size w w' := by
  have hu54 := Try.underlying54
  have hu34 := Try.underlying34
  have huT := Try.underlying103
  obtain ⟨A0, c0, rfl, hc0⟩ := hr.form
  have HR := Aside0.mk hr
  have HL := Aside0.mk hl
  have HJ := Aside0.mk hJ
  have HC := Aside0.mk hcall
  have H0 := Aside0.mk h0
  clear hr hl hJ hcall h0 hc0
  go_enter Try.func54, Try.ntmps54
  go_wp2
  go_loopw [9] (fun i wr => ∃ k : Nat, k ≤ l.length ∧ i = .int .i64 k ∧ Aside0 (J wr ∧ Below w.heap.size w wr ∧ (l.take k).any p = false)) (fun i _ => l.length - (intOf i).toNat)
  case atStart => exact ⟨0, by omega, rfl, ⟨H0.out, Below.refl _ _, rfl⟩⟩
  case round =>
    clear H0
    obtain ⟨k, hk, rfl, HI⟩ := hrel
    rcases Nat.lt_or_ge k l.length with hlt | hge
    · have p0 : (0 : Int) ≤ (k : Int) := by omega
      have q0 : (k : Int) < (l.length : Int) := by omega
      obtain ⟨x, hx⟩ : ∃ x, l[k]? = some x := ⟨_, List.getElem?_eq_getElem hlt⟩
      obtain ⟨g, cp, hv, hcp, hgl, hcell⟩ := (HR.out.below HI.out.2.1).at_ (fun _ => rfl) hx
      injection hv with hv1 hv2 hv3
      subst hv1
      have HM := Aside0.mk (get_mem hx)
      have HT := Aside0.mk (show (l.take (k + 1)).any p = ((l.take k).any p || p x) by
        obtain ⟨h1, h2⟩ := List.getElem?_eq_some_iff.1 hx
        rw [List.take_succ_eq_append_getElem h1, List.any_append, h2]; simp)
      have hnn : wrap64 ((k : Int) + 1) = ((k + 1 : Nat) : Int) := by have := HL.out; unfold wrap64; omega
      have c0 := hcell 0 (by decide)
      have c1 := hcell 1 (by decide)
      have c2 := hcell 2 (by decide)
      have c3 := hcell 3 (by decide)
      have c4 := hcell 4 (by decide)
      have c5 := hcell 5 (by decide)
      have c6 := hcell 6 (by decide)
      have c7 := hcell 7 (by decide)
      have c8 := hcell 8 (by decide)
      have c9 := hcell 9 (by decide)
      have c10 := hcell 10 (by decide)
      have c11 := hcell 11 (by decide)
      have c12 := hcell 12 (by decide)
      have c13 := hcell 13 (by decide)
      have c14 := hcell 14 (by decide)
      rw [Nat.add_zero] at c0
      replace q0 := eq_true q0
      replace p0 := eq_true p0
      clear hcell hx hv2 hv3
      have HCC : Aside0 (∀ W, J W → Calls Try.prog 55 (#[.agg (clA x)] ++ cap) W fun r W' => r = .returned (.bool (p x)) ∧ Below W.heap.size W W') := ⟨fun W hW => HC.out x W HM.out hW⟩
      have HJ1 : Aside0 (J (wr.alloc (.cells (clA x) 103))) := ⟨HJ.out _ _ HI.out.1 (below_alloc (Below.refl _ _) _)⟩
      cases hp : p x with
      | true =>
        rw [hp] at HCC
        have HE := Aside0.mk (show l.any p = true by rw [List.any_eq_true]; exact ⟨x, HM.out, hp⟩)
        clear hp
        go_wp2_with (go_at_call 55; (with_reducible refine (HCC.out _ HJ1.out).mono ?_); rintro r w2 ⟨rfl, hb⟩; have HB2 := Aside0.mk (below_step (below_alloc HI.out.2.1 _) hb); clear hb)
        go_ret
        exact ⟨by rw [HE.out]; rfl, HB2.out⟩
      | false =>
        rw [hp] at HCC
        rw [hp] at HT
        clear hp
        go_wp2_with (go_at_call 55; (with_reducible refine (HCC.out _ HJ1.out).mono ?_); rintro r w2 ⟨rfl, hb⟩; have HB2 := Aside0.mk (below_step (below_alloc HI.out.2.1 _) hb); have HJ2 := Aside0.mk (HJ.out _ _ HJ1.out hb); clear hb)
        go_roundw
        case rel => exact ⟨k + 1, by omega, by first | rw [hnn] | simp, ⟨HJ2.out, HB2.out, by rw [HT.out, HI.out.2.2]; rfl⟩⟩
        case measure => first | (rw [hnn]; simp [intOf]; omega) | (simp [intOf]; omega)
    · have q0 : ((k : Int) < (l.length : Int)) = False := eq_false (by omega)
      have HE := Aside0.mk (show l.any p = false by rw [← HI.out.2.2, List.take_of_length_le (by omega)])
      clear hk hge
      go_wp2
      go_ret
      exact ⟨by rw [HE.out]; rfl, HI.out.2.1⟩

end Go.Proofs.Ythniclbmpeklmaa.Au
