/- What is proved: a model of timers and a bench of workers in memory: what looking up, storing and turning cells does with them; no program's walk yet. -/
import Derived.Test.YthniclbmpeklmaaAuA
import Derived.Test.YthniclbmpeklmaaJuP
namespace Go.Proofs.Ythniclbmpeklmaa.Ju
open Go.RowKit Go.Maps Go.Proofs.YthniclbmpeklmaaW.PrintWords Go.Proofs.YthniclbmpeklmaaW.PrintLast Go.Proofs.YthniclbmpeklmaaW.PrintMore Go.Proofs.Ythniclbmpeklmaa.Mp Go.Proofs.Ythniclbmpeklmaa.Au
set_option linter.unusedVariables false
set_option linter.unusedSimpArgs false
abbrev faV (p : Int × Int) : Value := .agg #[.int .i64 p.1, .int .i64 p.2]
def fV (f : Ha → Option (Int × Int)) : Ha → Option Value := fun x => (f x).map faV
def iV (f : Int → Option Int) : Int → Option Value := fun x => (f x).map (Value.int .i64)
def pV (f : Int → Option Nat) : Int → Option Value := fun x => (f x).map fun g => .pointer (some ⟨g, 0, none⟩)
abbrev mdA (m : Md) (m1 m2 : Nat) : Array Value := #[.int .i64 m.clk, .map (some m1), .map (some m2)]
/-- A model in memory. -/
structure MdIs (w : World) (B b n : Nat) (m : Md) (m1 m2 : Nat) : Prop where
  blk : w.heap[b]? = some (.cells (mdA m m1 m2) 125 (0, 0))
  mf : ∃ z, z ≤ n ∧ MapIs haV Try.prog 34 w m1 z (fV m.fat)
  ml : ∃ z, z ≤ n ∧ MapIs (Value.int .i64) Try.prog 3 w m2 z (iV m.lst)
  hb : B ≤ b
  h1 : B ≤ m1
  h2 : B ≤ m2
  m12 : m1 ≠ m2
theorem zeroFa (w : World) : (zeroValue 122).run Try.prog w = .ok (faV (0, 0)) w := by kernel_rfl
section
variable {w w1 : World} {B b n m1 m2 : Nat} {m : Md}
theorem MdIs.move (h : MdIs w B b n m m1 m2) (hb : ∀ g, g < w.heap.size → g = b ∨ g = m1 ∨ g = m2 → w1.heap[g]? = w.heap[g]?) : MdIs w1 B b n m m1 m2 := by
  obtain ⟨z1, hz1, h1⟩ := h.mf
  obtain ⟨z2, hz2, h2⟩ := h.ml
  exact ⟨(hb b (blk_lt h.blk) (.inl rfl)).trans h.blk, ⟨z1, hz1, h1.move (hb m1 h1.lt (.inr (.inl rfl)))⟩, ⟨z2, hz2, h2.move (hb m2 h2.lt (.inr (.inr rfl)))⟩, h.hb, h.h1, h.h2, h.m12⟩
theorem MdIs.up {n' : Nat} (h : MdIs w B b n m m1 m2) (hn : n ≤ n') : MdIs w B b n' m m1 m2 := by
  obtain ⟨z1, hz1, h1⟩ := h.mf
  obtain ⟨z2, hz2, h2⟩ := h.ml
  exact ⟨h.blk, ⟨z1, by omega, h1⟩, ⟨z2, by omega, h2⟩, h.hb, h.h1, h.h2, h.m12⟩
theorem MdIs.below (h : MdIs w B b n m m1 m2) (hb : Below w.heap.size w w1) : MdIs w1 B b n m m1 m2 := h.move fun g hg _ => hb.block g hg
theorem MdIs.alloc (h : MdIs w B b n m m1 m2) (o : Obj) : MdIs (w.alloc o) B b n m m1 m2 := h.below (below_alloc (Below.refl _ _) o)
theorem MdIs.drew (h : MdIs w B b n m m1 m2) : MdIs w.drew B b n m m1 m2 := h.move fun g hg _ => rfl
theorem MdIs.drewN (h : MdIs w B b n m m1 m2) (q : Nat) : MdIs (w.drewN q) B b n m m1 m2 := h.move fun g hg _ => rfl
theorem MdIs.cell (h : MdIs w B b n m m1 m2) (i : Nat) : w.cell? ⟨b, i, none⟩ = (mdA m m1 m2)[i]? := blk_cell h.blk i
theorem MdIs.lt (h : MdIs w B b n m m1 m2) : b < w.heap.size := blk_lt h.blk
theorem MdIs.lt1 (h : MdIs w B b n m m1 m2) : m1 < w.heap.size := by obtain ⟨z1, _, h1⟩ := h.mf; exact h1.lt
theorem MdIs.lt2 (h : MdIs w B b n m m1 m2) : m2 < w.heap.size := by obtain ⟨z1, _, h1⟩ := h.ml; exact h1.lt
theorem MdIs.b1 (h : MdIs w B b n m m1 m2) : b ≠ m1 := by obtain ⟨z1, _, h1⟩ := h.mf; obtain ⟨_, _, q⟩ := h1.block; exact map_ne h.blk q
theorem MdIs.b2 (h : MdIs w B b n m m1 m2) : b ≠ m2 := by obtain ⟨z1, _, h1⟩ := h.ml; obtain ⟨_, _, q⟩ := h1.block; exact map_ne h.blk q
/-- The clock's cell is another one. -/
theorem MdIs.clock (h : MdIs w B b n m m1 m2) (t : Int) : MdIs (w.setCell ⟨b, 0, none⟩ (.int .i64 t)) B b n { m with clk := t } m1 m2 := by
  obtain ⟨z1, hz1, h1⟩ := h.mf
  obtain ⟨z2, hz2, h2⟩ := h.ml
  exact ⟨blk_set h.blk 0 _, ⟨z1, hz1, h1.move (Below.heap_setCell _ _ _ _ h.b1.symm)⟩, ⟨z2, hz2, h2.move (Below.heap_setCell _ _ _ _ h.b2.symm)⟩, h.hb, h.h1, h.h2, h.m12⟩
theorem MdIs.look (h : MdIs w B b n m m1 m2) {x : Ha} {kl : Lit} (hk : keyOf Try.prog 34 (haV x) = some kl) (W : World) (hb : W.heap[m1]? = w.heap[m1]?) :
    (Instr.lookup 123 (.map (some m1)) (haV x) false).run Try.prog W = .ok (.agg #[.int .i64 (m.st x), .int .i64 (m.dl x)]) W := by
  obtain ⟨z1, hz1, h1⟩ := h.mf
  have := (h1.move hb).look lawH Try.underlying123 (zeroFa W) (x := x) hk
  rw [this]
  unfold fV Md.st Md.dl
  cases m.fat x <;> rfl
theorem MdIs.lookL (h : MdIs w B b n m m1 m2) {x : Int} (hx : (Lit.int .i64 x).wf = true) (W : World) (hb : W.heap[m2]? = w.heap[m2]?) :
    (Instr.lookup 95 (.map (some m2)) (.int .i64 x) true).run Try.prog W = .ok (.tuple #[.int .i64 ((m.lst x).getD 0), .bool (m.lst x).isSome]) W := by
  obtain ⟨z1, hz1, h1⟩ := h.ml
  have := (h1.move hb).look_ok lawI Try.underlying95 (zeroI W) (x := x) (keyOf_int_mk Try.underlying3 hx)
  rw [this]
  unfold iV
  cases m.lst x <;> rfl
theorem fV_upd (f : Ha → Option (Int × Int)) (h : Ha) (v : Int × Int) : (fun l => if l = h then some (faV v) else fV f l) = fV (updF f h v) := by
  funext l
  unfold fV updF
  by_cases e : l = h <;> simp [e]
theorem iV_upd (f : Int → Option Int) (h : Int) (v : Int) : (fun l => if l = h then some (.int .i64 v) else iV f l) = iV (updL f h v) := by
  funext l
  unfold iV updL
  by_cases e : l = h <;> simp [e]
/-- A handle's fate is stored. -/
theorem MdIs.putF (h : MdIs w B b n m m1 m2) {f' : Ha → Option (Int × Int)} {z' : Nat} (hm : MapIs haV Try.prog 34 w1 m1 z' (fV f')) (hz : z' ≤ n + 1) (hg : w.grownBy w1 (some m1)) : MdIs w1 B b (n + 1) { m with fat := f' } m1 m2 := by
  obtain ⟨z2, hz2, h2⟩ := h.ml
  exact ⟨blk_grown h.blk hg (fun q => h.b1 (Option.some.inj q)), ⟨z', hz, hm⟩, ⟨z2, by omega, h2.move (hg.block m2 h2.lt (fun q => h.m12 (Option.some.inj q).symm))⟩, h.hb, h.h1, h.h2, h.m12⟩
theorem MdIs.putL (h : MdIs w B b n m m1 m2) {f' : Int → Option Int} {z' : Nat} (hm : MapIs (Value.int .i64) Try.prog 3 w1 m2 z' (iV f')) (hz : z' ≤ n + 1) (hg : w.grownBy w1 (some m2)) : MdIs w1 B b (n + 1) { m with lst := f' } m1 m2 := by
  obtain ⟨z1, hz1, h1⟩ := h.mf
  exact ⟨blk_grown h.blk hg (fun q => h.b2 (Option.some.inj q)), ⟨z1, by omega, h1.move (hg.block m1 h1.lt (fun q => h.m12 (Option.some.inj q)))⟩, ⟨z', hz, hm⟩, h.hb, h.h1, h.h2, h.m12⟩
end
/-- The blocks of a model: all that its functions may turn. -/
def mdS (b m1 m2 : Nat) : Nat → Prop := fun g => g = b ∨ g = m1 ∨ g = m2
abbrev wkA (iv : Ev) (beg : Int) (pp : Option Addr) : Array Value := #[.int .i64 iv.k, .int .i64 iv.wk, .int .i64 iv.op, .int .i64 iv.hn, .int .i64 iv.hg, .int .i64 iv.nn, .int .i64 iv.ng, .int .i64 iv.t, .int .i64 iv.a, .int .i64 iv.u, .bool iv.y, .int .i64 iv.er, .int .i64 beg, .pointer pp]
/-- A worker's work in memory. -/
def WkIs (w : World) (B g : Nat) (k : Wk) : Prop :=
  B ≤ g ∧ ∃ iv pp, w.heap[g]? = some (.cells (wkA iv k.beg pp) 119 (0, 0)) ∧ iv.op = k.op ∧ iv.hn = k.hn ∧ iv.hg = k.hg ∧ iv.t = k.t ∧
    ((pp = none ∧ k.pt = none) ∨ ∃ q ev, pp = some ⟨q, 0, none⟩ ∧ B ≤ q ∧ w.heap[q]? = some (.cells (evA ev) 54 (0, 0)) ∧ k.pt = some (ptOf ev))
theorem WkIs.keep {w w1 : World} {B g : Nat} {k : Wk} (h : WkIs w B g k) (hb : ∀ (q : Nat) (cs : Array Value) (t : TypeId), w.heap[q]? = some (.cells cs t (0, 0)) → (q = g ∨ t = 54) → w1.heap[q]? = w.heap[q]?) : WkIs w1 B g k := by
  obtain ⟨h0, iv, pp, h1, h2, h3, h4, h5, h6⟩ := h
  refine ⟨h0, iv, pp, (hb _ _ _ h1 (.inl rfl)).trans h1, h2, h3, h4, h5, ?_⟩
  rcases h6 with h6 | ⟨q, ev, a1, a2, a3, a4⟩
  · exact .inl h6
  · exact .inr ⟨q, ev, a1, a2, (hb _ _ _ a3 (.inr rfl)).trans a3, a4⟩
abbrev beA (nw : Int) (mb m3 : Nat) : Array Value := #[.pointer (some ⟨mb, 0, none⟩), .int .i64 nw, .map (some m3)]
/-- A bench in memory (pf: of each worker the block of its work). -/
structure BeIs (w : World) (B b n : Nat) (s : Be) (mb m1 m2 m3 : Nat) (pf : Int → Option Nat) : Prop where
  blk : w.heap[b]? = some (.cells (beA s.nw mb m3) 61 (0, 0))
  md : MdIs w B mb n s.m m1 m2
  mw : ∃ ks : List Int, ks.Nodup ∧ ks.length ≤ n ∧ (∀ x, x ∈ ks ↔ (pf x).isSome = true) ∧ MapIs (Value.int .i64) Try.prog 3 w m3 ks.length (pV pf)
  wk : ∀ x, (pf x = none ∧ s.wks x = none) ∨ ∃ g k, pf x = some g ∧ s.wks x = some k ∧ WkIs w B g k
  inj : ∀ x y g, pf x = some g → pf y = some g → x = y
  hb : B ≤ b
  h3 : B ≤ m3
  m31 : m3 ≠ m1
  m32 : m3 ≠ m2
theorem WkIs.ty {w : World} {B g : Nat} {k : Wk} (h : WkIs w B g k) : ∃ cs, w.heap[g]? = some (.cells cs 119 (0, 0)) := by obtain ⟨_, iv, pp, hg, _⟩ := h; exact ⟨_, hg⟩
section
variable {w w1 w2 : World} {B b n mb m1 m2 m3 : Nat} {s : Be} {pf : Int → Option Nat}
theorem BeIs.lt (h : BeIs w B b n s mb m1 m2 m3 pf) : b < w.heap.size := blk_lt h.blk
theorem BeIs.lt3 (h : BeIs w B b n s mb m1 m2 m3 pf) : m3 < w.heap.size := by obtain ⟨_, _, _, _, h1⟩ := h.mw; exact h1.lt
theorem BeIs.cell (h : BeIs w B b n s mb m1 m2 m3 pf) (i : Nat) : w.cell? ⟨b, i, none⟩ = (beA s.nw mb m3)[i]? := blk_cell h.blk i
theorem BeIs.map3 (h : BeIs w B b n s mb m1 m2 m3 pf) : ∃ es cl, w.heap[m3]? = some (.map es cl) := by obtain ⟨_, _, _, _, h1⟩ := h.mw; exact h1.block
/-- The blocks that hold cells of other types than a model's stay, where a model turns. -/
theorem BeIs.model {n' : Nat} {m' : Md} (h : BeIs w B b n s mb m1 m2 m3 pf) (hm : MdIs w1 B mb n' m' m1 m2) (hn : n ≤ n') (hf : Fr w w1 (mdS mb m1 m2)) : BeIs w1 B b n' { s with m := m' } mb m1 m2 m3 pf := by
  obtain ⟨ks, c1, c2, c3, c4⟩ := h.mw
  obtain ⟨z1, _, q1⟩ := h.md.mf
  obtain ⟨z2, _, q2⟩ := h.md.ml
  obtain ⟨_, _, q1⟩ := q1.block
  obtain ⟨_, _, q2⟩ := q2.block
  obtain ⟨_, _, q3⟩ := c4.block
  have key : ∀ (g : Nat) (cs : Array Value) (t : TypeId), w.heap[g]? = some (.cells cs t (0, 0)) → t ≠ 125 → w1.heap[g]? = w.heap[g]? := fun g cs t hg ht => hf.block g (blk_lt hg) (by
    rintro (e | e | e)
    · exact types_ne hg h.md.blk ht e
    · exact map_ne hg q1 e
    · exact map_ne hg q2 e)
  refine ⟨(key _ _ _ h.blk (by decide)).trans h.blk, hm, ⟨ks, c1, by omega, c3, c4.move (hf.block m3 c4.lt (by
    rintro (e | e | e)
    · exact map_ne h.md.blk q3 e.symm
    · exact h.m31 e
    · exact h.m32 e))⟩, fun x => ?_, h.inj, h.hb, h.h3, h.m31, h.m32⟩
  rcases h.wk x with c | ⟨g, k, p1, p2, p3⟩
  · exact .inl c
  · refine .inr ⟨g, k, p1, p2, p3.keep fun q cs t hq ht => key q cs t hq ?_⟩
    rcases ht with rfl | rfl
    · obtain ⟨_, hg⟩ := p3.ty
      rw [hg] at hq
      injection hq with hq
      injection hq with _ hq
      rw [← hq]
      decide
    · decide
theorem BeIs.move (h : BeIs w B b n s mb m1 m2 m3 pf) (hb : ∀ g, g < w.heap.size → w1.heap[g]? = w.heap[g]?) : BeIs w1 B b n s mb m1 m2 m3 pf := by
  obtain ⟨ks, c1, c2, c3, c4⟩ := h.mw
  refine ⟨(hb _ h.lt).trans h.blk, h.md.move (fun g hg _ => hb g hg), ⟨ks, c1, c2, c3, c4.move (hb _ c4.lt)⟩, fun x => ?_, h.inj, h.hb, h.h3, h.m31, h.m32⟩
  rcases h.wk x with c | ⟨g, k, p1, p2, p3⟩
  · exact .inl c
  · exact .inr ⟨g, k, p1, p2, p3.keep fun q cs t hq _ => hb q (blk_lt hq)⟩
theorem BeIs.below (h : BeIs w B b n s mb m1 m2 m3 pf) (hb : Below w.heap.size w w1) : BeIs w1 B b n s mb m1 m2 m3 pf := h.move fun g hg => hb.block g hg
theorem BeIs.alloc (h : BeIs w B b n s mb m1 m2 m3 pf) (o : Obj) : BeIs (w.alloc o) B b n s mb m1 m2 m3 pf := h.below (below_alloc (Below.refl _ _) o)
theorem BeIs.drew (h : BeIs w B b n s mb m1 m2 m3 pf) : BeIs w.drew B b n s mb m1 m2 m3 pf := h.move fun g hg => rfl
theorem BeIs.drewN (h : BeIs w B b n s mb m1 m2 m3 pf) (q : Nat) : BeIs (w.drewN q) B b n s mb m1 m2 m3 pf := h.move fun g hg => rfl
theorem BeIs.up {n' : Nat} (h : BeIs w B b n s mb m1 m2 m3 pf) (hn : n ≤ n') : BeIs w B b n' s mb m1 m2 m3 pf := by
  obtain ⟨ks, c1, c2, c3⟩ := h.mw
  exact ⟨h.blk, h.md.up hn, ⟨ks, c1, by omega, c3⟩, h.wk, h.inj, h.hb, h.h3, h.m31, h.m32⟩
/-- A look-up of a worker's work. -/
theorem BeIs.look (h : BeIs w B b n s mb m1 m2 m3 pf) {x : Int} (hx : (Lit.int .i64 x).wf = true) (W : World) (hW : W.heap[m3]? = w.heap[m3]?) :
    (Instr.lookup 59 (.map (some m3)) (.int .i64 x) true).run Try.prog W = .ok (.tuple #[(pV pf x).getD (.pointer none), .bool (pV pf x).isSome]) W := by
  obtain ⟨ks, c1, c2, c3, c4⟩ := h.mw
  exact (c4.move hW).look_ok lawI Try.underlying59 (z := .pointer none) (by kernel_rfl) (x := x) (keyOf_int_mk Try.underlying3 hx)
theorem pV_none {x : Int} (h : pf x = none) : pV pf x = none := by unfold pV; rw [h]; rfl
theorem pV_some {x : Int} {g : Nat} (h : pf x = some g) : pV pf x = some (.pointer (some ⟨g, 0, none⟩)) := by unfold pV; rw [h]; rfl
theorem BeIs.idle (h : BeIs w B b n s mb m1 m2 m3 pf) {x : Int} (hx : s.wks x = none) : pf x = none := by
  rcases h.wk x with c | ⟨g, k, p1, p2, _⟩
  · exact c.1
  · rw [hx] at p2; cases p2
theorem BeIs.busy (h : BeIs w B b n s mb m1 m2 m3 pf) {x : Int} {k : Wk} (hx : s.wks x = some k) : ∃ g, pf x = some g ∧ WkIs w B g k := by
  rcases h.wk x with c | ⟨g, k', p1, p2, p3⟩
  · rw [hx] at c; cases c.2
  · rw [hx] at p2; obtain rfl := Option.some.inj p2; exact ⟨g, p1, p3⟩
def updP (f : Int → Option Nat) (x : Int) (v : Option Nat) : Int → Option Nat := fun l => if l = x then v else f l
theorem pV_upd (f : Int → Option Nat) (x : Int) (g : Nat) : (fun l => if l = x then some (.pointer (some ⟨g, 0, none⟩)) else pV f l) = pV (updP f x (some g)) := by
  funext l
  unfold pV updP
  by_cases e : l = x <;> simp [e]
theorem pV_del (f : Int → Option Nat) (x : Int) : (fun l => if l = x then none else pV f l) = pV (updP f x none) := by
  funext l
  unfold pV updP
  by_cases e : l = x <;> simp [e]
theorem BeIs.cells_ne3 (h : BeIs w B b n s mb m1 m2 m3 pf) {g : Nat} {cs : Array Value} {t : TypeId} (hg : w.heap[g]? = some (.cells cs t (0, 0))) : g ≠ m3 := by
  obtain ⟨_, _, q⟩ := h.map3
  exact map_ne hg q
/-- A worker begins: its work lies in a new block, and the map tells it. -/
theorem BeIs.invoke {g : Nat} {iv : Ev} {beg : Int} {x : Int} (h : BeIs w B b n s mb m1 m2 m3 pf) (hb : Below w.heap.size w w1) (hg : w1.heap[g]? = some (.cells (wkA iv beg none) 119 (0, 0))) (hge : w.heap.size ≤ g) (hB : B ≤ w.heap.size) (hx : s.wks x = none) :
    ∃ z, z ≤ n ∧ MapIs (Value.int .i64) Try.prog 3 w1 m3 z (pV pf) ∧ ∀ w2, MapIs (Value.int .i64) Try.prog 3 w2 m3 (if (pV pf x).isSome then z else z + 1) (fun l => if l = x then some (.pointer (some ⟨g, 0, none⟩)) else pV pf l) → w1.grownBy w2 (some m3) →
      BeIs w2 B b (n + 1) { s with wks := updW s.wks x (some ⟨iv.op, iv.hn, iv.hg, iv.t, beg, none⟩) } mb m1 m2 m3 (updP pf x (some g)) := by
  have h' := h.below hb
  have hpx := h.idle hx
  obtain ⟨ks, c1, c2, c3, c4⟩ := h'.mw
  refine ⟨ks.length, c2, c4, fun w2 hm hgr => ?_⟩
  rw [pV_none hpx, pV_upd] at hm
  have hno : x ∉ ks := fun q => by have := (c3 x).1 q; rw [hpx] at this; cases this
  have key : ∀ (q : Nat) (cs : Array Value) (t : TypeId), w1.heap[q]? = some (.cells cs t (0, 0)) → w2.heap[q]? = w1.heap[q]? := fun q cs t hq => hgr.block q (blk_lt hq) (fun e => h'.cells_ne3 hq (Option.some.inj e))
  have old : ∀ y g', pf y = some g' → g' < w.heap.size := fun y g' hy => by
    rcases h.wk y with c | ⟨g2, k, p1, p2, p3⟩
    · rw [c.1] at hy; cases hy
    · rw [hy] at p1; obtain rfl := Option.some.inj p1; obtain ⟨_, hg2⟩ := p3.ty; exact blk_lt hg2
  refine ⟨(key _ _ _ h'.blk).trans h'.blk, ?_, ⟨ks ++ [x], ?_, by simp; omega, fun y => ?_, by simpa using hm⟩, fun y => ?_, fun y y' g' hy hy' => ?_, h.hb, h.h3, h.m31, h.m32⟩
  · refine (h'.md.up (Nat.le_succ n)).move fun q hq e => hgr.block q hq (fun e' => ?_)
    obtain rfl := Option.some.inj e'
    rcases e with e | e | e
    · exact h'.cells_ne3 h'.md.blk e.symm
    · exact h.m31 e
    · exact h.m32 e
  · rw [List.nodup_append]
    exact ⟨c1, by simp, fun a ha b' hb' => by obtain rfl := List.mem_singleton.1 hb'; exact fun e => hno (e ▸ ha)⟩
  · unfold updP
    rw [List.mem_append, List.mem_singleton]
    by_cases e : y = x
    · simp [e]
    · rw [if_neg e, ← c3 y]; simp [e]
  · show (updP pf x (some g) y = none ∧ updW s.wks x _ y = none) ∨ ∃ g' k, updP pf x (some g) y = some g' ∧ updW s.wks x _ y = some k ∧ WkIs w2 B g' k
    unfold updP updW
    by_cases e : y = x
    · rw [if_pos e, if_pos e]
      exact .inr ⟨g, _, rfl, rfl, by omega, iv, none, (key _ _ _ hg).trans hg, rfl, rfl, rfl, rfl, .inl ⟨rfl, rfl⟩⟩
    · rw [if_neg e, if_neg e]
      rcases h'.wk y with c | ⟨g2, k, p1, p2, p3⟩
      · exact .inl c
      · exact .inr ⟨g2, k, p1, p2, p3.keep fun q cs t hq _ => key q cs t hq⟩
  · unfold updP at hy hy'
    by_cases e : y = x
    · rw [if_pos e] at hy
      by_cases e' : y' = x
      · rw [e, e']
      · rw [if_neg e'] at hy'
        have := old _ _ hy'
        have := Option.some.inj hy
        omega
    · rw [if_neg e] at hy
      by_cases e' : y' = x
      · rw [if_pos e'] at hy'
        have := old _ _ hy
        have := Option.some.inj hy'
        omega
      · rw [if_neg e'] at hy'
        exact h.inj y y' g' hy hy'
/-- A worker is through: the map loses it. -/
theorem BeIs.drop {x : Int} {k : Wk} (h : BeIs w B b n s mb m1 m2 m3 pf) (hx : s.wks x = some k) :
    ∃ z, MapIs (Value.int .i64) Try.prog 3 w m3 z (pV pf) ∧ ∀ w2, MapIs (Value.int .i64) Try.prog 3 w2 m3 (if (pV pf x).isSome then z - 1 else z) (fun l => if l = x then none else pV pf l) → w.grownBy w2 (some m3) →
      BeIs w2 B b n { s with wks := updW s.wks x none } mb m1 m2 m3 (updP pf x none) := by
  obtain ⟨g, hpx, hwk⟩ := h.busy hx
  obtain ⟨ks, c1, c2, c3, c4⟩ := h.mw
  refine ⟨ks.length, c4, fun w2 hm hgr => ?_⟩
  rw [pV_some hpx, pV_del] at hm
  have hin : x ∈ ks := (c3 x).2 (by rw [hpx]; rfl)
  have key : ∀ (q : Nat) (cs : Array Value) (t : TypeId), w.heap[q]? = some (.cells cs t (0, 0)) → w2.heap[q]? = w.heap[q]? := fun q cs t hq => hgr.block q (blk_lt hq) (fun e => h.cells_ne3 hq (Option.some.inj e))
  have hlen : (ks.erase x).length = ks.length - 1 := List.length_erase_of_mem hin
  refine ⟨(key _ _ _ h.blk).trans h.blk, ?_, ⟨ks.erase x, c1.erase x, by rw [hlen]; omega, fun y => ?_, by rw [hlen]; exact hm⟩, fun y => ?_, fun y y' g' hy hy' => ?_, h.hb, h.h3, h.m31, h.m32⟩
  · refine h.md.move fun q hq e => hgr.block q hq (fun e' => ?_)
    obtain rfl := Option.some.inj e'
    rcases e with e | e | e
    · exact h.cells_ne3 h.md.blk e.symm
    · exact h.m31 e
    · exact h.m32 e
  · unfold updP
    rw [c1.mem_erase_iff]
    by_cases e : y = x
    · simp [e]
    · rw [if_neg e, ← c3 y]; simp [e]
  · show (updP pf x none y = none ∧ updW s.wks x none y = none) ∨ ∃ g' k, updP pf x none y = some g' ∧ updW s.wks x none y = some k ∧ WkIs w2 B g' k
    unfold updP updW
    by_cases e : y = x
    · rw [if_pos e, if_pos e]; exact .inl ⟨rfl, rfl⟩
    · rw [if_neg e, if_neg e]
      rcases h.wk y with c | ⟨g2, k, p1, p2, p3⟩
      · exact .inl c
      · exact .inr ⟨g2, k, p1, p2, p3.keep fun q cs t hq _ => key q cs t hq⟩
  · unfold updP at hy hy'
    by_cases e : y = x
    · rw [if_pos e] at hy; cases hy
    · rw [if_neg e] at hy
      by_cases e' : y' = x
      · rw [if_pos e'] at hy'; cases hy'
      · rw [if_neg e'] at hy'
        exact h.inj y y' g' hy hy'
/-- An operation has taken effect: its work's cell tells the event. -/
theorem BeIs.pointed {x : Int} {k : Wk} {g q : Nat} {ev : Ev} (h : BeIs w B b n s mb m1 m2 m3 pf) (hx : s.wks x = some k) (hp : pf x = some g) (hq : w.heap[q]? = some (.cells (evA ev) 54 (0, 0))) (hB : B ≤ q) :
    BeIs (w.setCell ⟨g, 13, none⟩ (.pointer (some ⟨q, 0, none⟩))) B b n { s with wks := updW s.wks x (some { k with pt := some (ptOf ev) }) } mb m1 m2 m3 pf := by
  obtain ⟨g0, hp0, hwk⟩ := h.busy hx
  obtain rfl : g0 = g := Option.some.inj (hp0.symm.trans hp)
  obtain ⟨_, hgt⟩ := hwk.ty
  have far : ∀ (q' : Nat) (cs : Array Value) (t : TypeId), w.heap[q']? = some (.cells cs t (0, 0)) → t ≠ 119 → (w.setCell ⟨g0, 13, none⟩ (.pointer (some ⟨q, 0, none⟩))).heap[q']? = w.heap[q']? := fun q' cs t hq' ht => Below.heap_setCell _ _ _ _ (fun e => types_ne hq' hgt ht e)
  have farm : ∀ q' : Nat, (∃ (es : Array MapEntry) (cl : Nat), w.heap[q']? = some (.map es cl)) → (w.setCell ⟨g0, 13, none⟩ (.pointer (some ⟨q, 0, none⟩))).heap[q']? = w.heap[q']? := fun q' ⟨_, _, hq'⟩ => Below.heap_setCell _ _ _ _ (fun e => map_ne hgt hq' e.symm)
  obtain ⟨ks, c1, c2, c3, c4⟩ := h.mw
  obtain ⟨z1, _, q1⟩ := h.md.mf
  obtain ⟨z2, _, q2⟩ := h.md.ml
  refine ⟨(far _ _ _ h.blk (by decide)).trans h.blk, h.md.move fun q' hq' e => ?_, ⟨ks, c1, c2, c3, c4.move (farm _ h.map3)⟩, fun y => ?_, h.inj, h.hb, h.h3, h.m31, h.m32⟩
  · rcases e with rfl | rfl | rfl
    · exact far _ _ _ h.md.blk (by decide)
    · exact farm _ q1.block
    · exact farm _ q2.block
  · show (pf y = none ∧ updW s.wks x _ y = none) ∨ ∃ g' k', pf y = some g' ∧ updW s.wks x _ y = some k' ∧ WkIs _ B g' k'
    unfold updW
    by_cases e : y = x
    · rw [if_pos e, e]
      obtain ⟨w0, iv, pp, w1', w2', w3', w4', w5', _⟩ := hwk
      refine .inr ⟨g0, _, hp, rfl, w0, iv, some ⟨q, 0, none⟩, ?_, w2', w3', w4', w5', .inr ⟨q, ev, rfl, hB, (far _ _ _ hq (by decide)).trans hq, rfl⟩⟩
      have := blk_set w1' 13 (.pointer (some ⟨q, 0, none⟩))
      exact this
    · rw [if_neg e]
      rcases h.wk y with c | ⟨g2, k2, p1, p2, p3⟩
      · exact .inl c
      · refine .inr ⟨g2, k2, p1, p2, p3.keep fun q' cs t hq' ht => ?_⟩
        rcases ht with rfl | rfl
        · exact Below.heap_setCell _ _ _ _ (fun e' => e (h.inj y x g0 (by rw [← show q' = g0 from e']; exact p1) hp))
        · exact far _ _ _ hq' (by decide)
end
/-- A bench's blocks: all that its functions may turn. -/
def beS (B : Nat) : Nat → Prop := fun g => B ≤ g
end Go.Proofs.Ythniclbmpeklmaa.Ju
