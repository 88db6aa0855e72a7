/- What is proved: a history's story in memory: two maps and three rows of structs behind one pointer; what reading, appending and storing do with it; no program's walk yet. -/
import Derived.Test.YthniclbmpeklmaaProg
import Derived.Test.YthniclbmpeklmaaMe
import Derived.Test.YthniclbmpeklmaaWKept
import Derived.Test.YthniclbmpeklmaaWMore
import Derived.Test.YthniclbmpeklmaaAuQ
import Derived.DeepKeys4
import Derived.WalkKit
import Derived.KernelRfl
import Derived.Maps.AppendAt
namespace Go.Proofs.Ythniclbmpeklmaa.Au
open Go.RowKit Go.Maps Go.Proofs.YthniclbmpeklmaaW.PrintWords Go.Proofs.YthniclbmpeklmaaW.PrintLast Go.Proofs.YthniclbmpeklmaaW.PrintMore Go.Proofs.Ythniclbmpeklmaa.Mp
set_option linter.unusedVariables false
set_option linter.unusedSimpArgs false
variable {α : Type}
abbrev evA (e : Ev) : Array Value := #[.int .i64 e.k, .int .i64 e.wk, .int .i64 e.op, .int .i64 e.hn, .int .i64 e.hg, .int .i64 e.nn, .int .i64 e.ng, .int .i64 e.t, .int .i64 e.a, .int .i64 e.u, .bool e.y, .int .i64 e.er]
abbrev lfA (x : Life) : Array Value := #[.int .i64 x.hn, .int .i64 x.hg, .int .i64 x.made, .int .i64 x.wk, .int .i64 x.til, .int .i64 x.dl]
abbrev clA (q : Cl) : Array Value := #[.int .i64 q.e.k, .int .i64 q.e.wk, .int .i64 q.e.op, .int .i64 q.e.hn, .int .i64 q.e.hg, .int .i64 q.e.nn, .int .i64 q.e.ng, .int .i64 q.e.t, .int .i64 q.e.a, .int .i64 q.e.u, .bool q.e.y, .int .i64 q.e.er, .int .i64 q.beg, .int .i64 q.clk, .int .i64 q.en]
abbrev haV (h : Ha) : Value := .agg #[.int .i64 h.1, .int .i64 h.2]
abbrev nV (f : α → Option Nat) : α → Option Value := fun x => (f x).map fun j => .int .i64 (j : Int)
/-- A row of elements of so many cells each. -/
def RowIs (w : World) (B T k : Nat) (A : α → Array Value) (v : Value) (l : List α) : Prop := w.ownsRow B T k v l.length (l.flatMap fun x => (A x).toList)
theorem flat_get {A : α → Array Value} {k : Nat} (hA : ∀ x, (A x).size = k) : ∀ (l : List α) (i j : Nat) (x : α), l[i]? = some x → j < k → (l.flatMap fun x => (A x).toList)[i * k + j]? = (A x)[j]?
  | [], i, j, x, h, hj => by simp at h
  | y :: l, 0, j, x, h, hj => by
    obtain rfl : y = x := by simpa using h
    rw [List.flatMap_cons, List.getElem?_append_left (by simp [hA]; omega)]
    simp
  | y :: l, i + 1, j, x, h, hj => by
    rw [List.flatMap_cons, List.getElem?_append_right (by simp only [Array.length_toList, hA]; rw [Nat.succ_mul]; omega)]
    rw [Array.length_toList, hA, show (i + 1) * k + j - k = i * k + j by rw [Nat.succ_mul]; omega]
    exact flat_get hA l i j x (by simpa using h) hj
theorem flat_len {A : α → Array Value} {k : Nat} (hA : ∀ x, (A x).size = k) (l : List α) : (l.flatMap fun x => (A x).toList).length = l.length * k := by
  induction l with
  | nil => simp
  | cons y l ih => rw [List.flatMap_cons, List.length_append, ih, Array.length_toList, hA, List.length_cons, Nat.succ_mul]; omega
theorem flat_set {A : α → Array Value} {k : Nat} (hA : ∀ x, (A x).size = k) : ∀ (l : List α) (i j : Nat) (x x' : α) (u : Value), l[i]? = some x → j < k → A x' = (A x).setIfInBounds j u → ((l.set i x').flatMap fun x => (A x).toList) = (l.flatMap fun x => (A x).toList).set (i * k + j) u
  | [], i, j, x, x', u, h, hj, e => by simp at h
  | y :: l, 0, j, x, x', u, h, hj, e => by
    obtain rfl : y = x := by simpa using h
    rw [List.set_cons_zero, List.flatMap_cons, List.flatMap_cons, Nat.zero_mul, Nat.zero_add, List.set_append, if_pos (by simp [hA]; omega), e]
    simp
  | y :: l, i + 1, j, x, x', u, h, hj, e => by
    rw [List.set_cons_succ, List.flatMap_cons, List.flatMap_cons, flat_set hA l i j x x' u (by simpa using h) hj e]
    rw [List.set_append, if_neg (by simp only [Array.length_toList, hA]; rw [Nat.succ_mul]; omega)]
    rw [Array.length_toList, hA, show (i + 1) * k + j - k = i * k + j by rw [Nat.succ_mul]; omega]
section
variable {w w1 : World} {B T k : Nat} {A : α → Array Value} {v : Value} {l : List α}
theorem RowIs.nil (w : World) (B T k : Nat) (A : α → Array Value) : RowIs w B T k A (.slice none 0 0) ([] : List α) := World.ownsRow_nil w B T k
/-- An element's cells. -/
theorem RowIs.at_ (h : RowIs w B T k A v l) (hA : ∀ x, (A x).size = k) {i : Nat} {x : α} (hx : l[i]? = some x) : ∃ g cap, v = .slice (some ⟨g, 0, none⟩) l.length cap ∧ l.length ≤ cap ∧ g < w.heap.size ∧ ∀ j, j < k → w.cell? ⟨g, i * k + j, none⟩ = (A x)[j]? := by
  have hi : i < l.length := (List.getElem?_eq_some_iff.1 hx).1
  rcases h.2 with ⟨rfl, hn⟩ | ⟨g, cap, cur, rfl, _, hg, hnc, _, hcs, htake⟩
  · omega
  · refine ⟨g, cap, rfl, hnc, blk_lt hg, fun j hj => ?_⟩
    have hlt : i * k + j < l.length * k := by
      have : (i + 1) * k ≤ l.length * k := Nat.mul_le_mul_right _ hi
      rw [Nat.succ_mul] at this
      omega
    rw [blk_cell hg, ← flat_get hA l i j x hx hj, ← htake, List.getElem?_take_of_lt hlt]
    simp
/-- An element's cell is another one. -/
theorem RowIs.put {g cap : Nat} (h : RowIs w B T k A (.slice (some ⟨g, 0, none⟩) l.length cap) l) (hA : ∀ x, (A x).size = k) {i j : Nat} {x x' : α} {u : Value} (hx : l[i]? = some x) (hj : j < k) (e : A x' = (A x).setIfInBounds j u) :
    RowIs (w.setCell ⟨g, i * k + j, none⟩ u) B T k A (.slice (some ⟨g, 0, none⟩) (l.set i x').length cap) (l.set i x') := by
  have hi : i < l.length := (List.getElem?_eq_some_iff.1 hx).1
  unfold RowIs
  rw [flat_set hA l i j x x' u hx hj e]
  rcases h.2 with ⟨hn, _⟩ | ⟨g', cap', cur, hv, hb, hg, hnc, hcm, hcs, htake⟩
  · cases hn
  · obtain ⟨rfl, rfl⟩ : g' = g ∧ cap' = cap := by injection hv with a b c; injection a with a; injection a with a; exact ⟨a.symm, c.symm⟩
    refine ⟨by rw [List.length_set, List.length_set]; exact h.1, .inr ⟨g', cap', cur.setIfInBounds (i * k + j) u, rfl, hb, blk_set hg _ _, by simpa using hnc, hcm, by simpa using hcs, ?_⟩⟩
    rw [List.length_set, Array.toList_setIfInBounds, ← htake, List.take_set]
theorem RowIs.kept {row : Option Nat} (h : RowIs w B T k A v l) (hg : w.grownBy w1 row) (hne : v.ownBlock = none ∨ v.ownBlock ≠ row) : RowIs w1 B T k A v l := World.ownsRow.kept h hg hne
theorem RowIs.below (h : RowIs w B T k A v l) (hb : Below w.heap.size w w1) : RowIs w1 B T k A v l := pw_own_below h hb
theorem RowIs.own (h : RowIs w B T k A v l) {g : Nat} (hg : v.ownBlock = some g) : ∃ cur, w.heap[g]? = some (.cells cur T (0, 0)) := by
  rcases h.2 with ⟨rfl, hn⟩ | ⟨g', cap, cur, rfl, _, hb, _⟩
  · cases hg
  · obtain rfl : g' = g := by simpa [Value.ownBlock] using hg
    exact ⟨cur, hb⟩
theorem RowIs.far (h : RowIs w B T k A v l) {p : Addr} (hp : v.ownBlock ≠ some p.block) (u : Value) : RowIs (w.setCell p u) B T k A v l := by
  refine ⟨h.1, ?_⟩
  rcases h.2 with hn | ⟨g, cap, cur, rfl, hb, hg, rest⟩
  · exact .inl hn
  · exact .inr ⟨g, cap, cur, rfl, hb, blk_far hg (fun e => hp (by simp [Value.ownBlock, e])) u, rest⟩
end
theorem RowIs.form {α : Type} {w : World} {B T k : Nat} {A : α → Array Value} {v : Value} {l : List α} (h : RowIs w B T k A v l) : ∃ a cap, v = .slice a l.length cap ∧ l.length ≤ cap := by
  rcases h.2 with ⟨rfl, hn⟩ | ⟨g, cap, cur, rfl, _, hg, hnc, _⟩
  · exact ⟨none, 0, by rw [hn], by omega⟩
  · exact ⟨_, cap, rfl, hnc⟩
/-- The story's cells, and the story in memory. -/
abbrev stA (vl vv vc : Value) (m1 m2 : Nat) : Array Value := #[vl, vv, .map (some m1), vc, .map (some m2)]
structure StIs (w : World) (B b n : Nat) (s : Story) (vl vv vc : Value) (m1 m2 : Nat) : Prop where
  blk : w.heap[b]? = some (.cells (stA vl vv vc m1 m2) 97 (0, 0))
  rl : RowIs w B 54 12 evA vl s.l
  rv : RowIs w B 99 6 lfA vv s.lives
  rc : RowIs w B 103 15 clA vc s.calls
  ma : ∃ z, z ≤ n ∧ MapIs haV Try.prog 34 w m1 z (nV s.at_)
  mo : ∃ z, z ≤ n ∧ MapIs (Value.int .i64) Try.prog 3 w m2 z (nV s.opn)
  hb : B ≤ b
  h1 : B ≤ m1
  h2 : B ≤ m2
  m12 : m1 ≠ m2
theorem lawI : Keyed Try.prog 3 := int_keyed Try.underlying3
theorem laidOut_ : laidOutB Try.prog = true := by kernel_rfl
theorem lawH : Keyed Try.prog 34 := Keyed.of_law (deep_law_laid laidOut_ (m := 3) (by decide) (of_decide_eq_true (by kernel_rfl)) (by kernel_rfl) (by kernel_rfl))
theorem ha_inj (x y : Ha) (h : haV x = haV y) : x = y := by
  injection h with h
  have h1 := congrArg (fun a => a[0]?) h
  have h2 := congrArg (fun a => a[1]?) h
  simp at h1 h2
  exact Prod.ext h1 h2
theorem int_inj' (x y : Int) (h : Value.int .i64 x = Value.int .i64 y) : x = y := by injection h
theorem zeroI (w : World) : (zeroValue 3).run Try.prog w = .ok (.int .i64 0) w := by kernel_rfl
section
variable {w w1 : World} {B b n m1 m2 : Nat} {s : Story} {vl vv vc : Value}
theorem types_ne {w : World} {g g' : Nat} {c c' : Array Value} {t t' : TypeId} (h : w.heap[g]? = some (.cells c t (0, 0))) (h' : w.heap[g']? = some (.cells c' t' (0, 0))) (e : t ≠ t') : g ≠ g' := by
  rintro rfl
  rw [h] at h'
  injection h' with h'
  injection h' with _ h'
  exact e h'
theorem map_ne {w : World} {g g' : Nat} {c : Array Value} {t : TypeId} {es : Array MapEntry} {cl : Nat} (h : w.heap[g]? = some (.cells c t (0, 0))) (h' : w.heap[g']? = some (.map es cl)) : g ≠ g' := by
  rintro rfl
  rw [h] at h'
  injection h' with h'
  cases h'
/-- What doesn't touch the story's blocks keeps it. -/
theorem StIs.move (h : StIs w B b n s vl vv vc m1 m2) (hb : ∀ g, g < w.heap.size → w1.heap[g]? = w.heap[g]?) : StIs w1 B b n s vl vv vc m1 m2 := by
  have row : ∀ {α : Type} {B T k : Nat} {A : α → Array Value} {v : Value} {l : List α}, RowIs w B T k A v l → RowIs w1 B T k A v l := fun r => by
    refine ⟨r.1, ?_⟩
    rcases r.2 with hn | ⟨g, cap, cur, rfl, hbase, hg, rest⟩
    · exact .inl hn
    · exact .inr ⟨g, cap, cur, rfl, hbase, (hb g (blk_lt hg)).trans hg, rest⟩
  obtain ⟨z1, hz1, h1⟩ := h.ma
  obtain ⟨z2, hz2, h2⟩ := h.mo
  exact ⟨(hb b (blk_lt h.blk)).trans h.blk, row h.rl, row h.rv, row h.rc, ⟨z1, hz1, h1.move (hb m1 h1.lt)⟩, ⟨z2, hz2, h2.move (hb m2 h2.lt)⟩, h.hb, h.h1, h.h2, h.m12⟩
theorem StIs.up {n' : Nat} (h : StIs w B b n s vl vv vc m1 m2) (hn : n ≤ n') : StIs w B b n' s vl vv vc m1 m2 := by
  obtain ⟨z1, hz1, h1⟩ := h.ma
  obtain ⟨z2, hz2, h2⟩ := h.mo
  exact ⟨h.blk, h.rl, h.rv, h.rc, ⟨z1, by omega, h1⟩, ⟨z2, by omega, h2⟩, h.hb, h.h1, h.h2, h.m12⟩
theorem StIs.below (h : StIs w B b n s vl vv vc m1 m2) (hb : Below w.heap.size w w1) : StIs w1 B b n s vl vv vc m1 m2 := h.move fun g hg => hb.block g hg
theorem StIs.alloc (h : StIs w B b n s vl vv vc m1 m2) (o : Obj) : StIs (w.alloc o) B b n s vl vv vc m1 m2 := h.below (below_alloc (Below.refl _ _) o)
theorem StIs.drew (h : StIs w B b n s vl vv vc m1 m2) : StIs w.drew B b n s vl vv vc m1 m2 := h.move fun g hg => rfl
theorem StIs.drewN (h : StIs w B b n s vl vv vc m1 m2) (q : Nat) : StIs (w.drewN q) B b n s vl vv vc m1 m2 := h.move fun g hg => rfl
theorem StIs.cell (h : StIs w B b n s vl vv vc m1 m2) (i : Nat) : w.cell? ⟨b, i, none⟩ = (stA vl vv vc m1 m2)[i]? := blk_cell h.blk i
theorem StIs.lt (h : StIs w B b n s vl vv vc m1 m2) : b < w.heap.size := blk_lt h.blk
end
/-- What stays: all old blocks but some. -/
structure Fr (w w' : World) (S : Nat → Prop) : Prop where
  os : w'.os = w.os
  tape : w'.tape = w.tape
  output : w'.output = w.output
  size : w.heap.size ≤ w'.heap.size
  block : ∀ g, g < w.heap.size → ¬ S g → w'.heap[g]? = w.heap[g]?
section
variable {w w1 w2 : World} {S S' : Nat → Prop}
theorem Fr.refl (w : World) (S : Nat → Prop) : Fr w w S := ⟨rfl, rfl, rfl, Nat.le_refl _, fun _ _ _ => rfl⟩
theorem Fr.trans (h : Fr w w1 S) (h' : Fr w1 w2 S) : Fr w w2 S := ⟨h'.os.trans h.os, h'.tape.trans h.tape, h'.output.trans h.output, Nat.le_trans h.size h'.size, fun g hg hs => (h'.block g (Nat.lt_of_lt_of_le hg h.size) hs).trans (h.block g hg hs)⟩
theorem Fr.mono (h : Fr w w1 S) (hs : ∀ g, S g → S' g) : Fr w w1 S' := ⟨h.os, h.tape, h.output, h.size, fun g hg hn => h.block g hg (fun q => hn (hs g q))⟩
/-- What is changed need but be told of old blocks. -/
theorem Fr.monoB (h : Fr w w1 S) (hs : ∀ g, g < w.heap.size → S g → S' g) : Fr w w1 S' := ⟨h.os, h.tape, h.output, h.size, fun g hg hn => h.block g hg (fun q => hn (hs g hg q))⟩
theorem Fr.of_below (h : Below w.heap.size w w1) (S : Nat → Prop) : Fr w w1 S := ⟨h.os, h.tape, h.output, h.size, fun g hg _ => h.block g hg⟩
theorem Fr.of_grown {row : Option Nat} (h : w.grownBy w1 row) : Fr w w1 (fun g => some g = row) := ⟨h.os, h.tape, h.output, h.size, fun g hg hn => h.block g hg hn⟩
theorem Fr.alloc (h : Fr w w1 S) (o : Obj) : Fr w (w1.alloc o) S := h.trans (Fr.of_below (below_alloc (Below.refl _ _) o) S)
theorem Fr.drew (h : Fr w w1 S) : Fr w w1.drew S := ⟨h.os, h.tape, h.output, h.size, h.block⟩
theorem Fr.drewN (h : Fr w w1 S) (n : Nat) : Fr w (w1.drewN n) S := ⟨h.os, h.tape, h.output, h.size, h.block⟩
theorem Fr.set (h : Fr w w1 S) (p : Addr) (u : Value) (hp : w.heap.size ≤ p.block ∨ S p.block) : Fr w (w1.setCell p u) S :=
  ⟨h.os, h.tape, h.output, by simpa using h.size, fun g hg hn => (Below.heap_setCell w1 p u g (fun e => by subst e; rcases hp with q | q; omega; exact hn q)).trans (h.block g hg hn)⟩
theorem Fr.below {B : Nat} (h : Fr w w1 S) (hB : B ≤ w.heap.size) (hs : ∀ g, S g → B ≤ g) : Below B w w1 := ⟨h.os, h.tape, h.output, h.size, fun g hg => h.block g (by omega) (fun q => by have := hs g q; omega)⟩
theorem Fr.blk {g : Nat} {o : Obj} (h : Fr w w1 S) (hb : w.heap[g]? = some o) (hn : ¬ S g) : w1.heap[g]? = some o := (h.block g (blk_lt hb) hn).trans hb
end
end Go.Proofs.Ythniclbmpeklmaa.Au
