/- What is proved: a part of the way to the statement ModelNodesSaid: JuI, JuD, JuE, JuF, JuG, JuS, MoG, KJfx0, KJfx1, KJfx2, MoH, MoI, Krow; no conditions. Put together by a program of this session (claimv.py). -/
import Derived.Test.YthniclbmpeklmaaProg
import Derived.Below
import Derived.Deep.Draws
import Derived.Deep.AppendLies
import Derived.Maps.AppendAt
import Derived.OwnWalk
import Derived.Laws.BytesArg
import Derived.Laws.MakeOwn
import Derived.Laws.OwnMore
import Derived.Deep.OwnRows
import Derived.Tactics
import Derived.Lib.ConvBytes
import Derived.Laws.Slices
import Derived.WalkKit
import Derived.KernelRfl
import Derived.RowKit3
import Derived.Deep.LoopGhost
import Derived.Deep.QuietTactic
import Derived.BigQuiet
import Derived.WideLaws
import Derived.Deep.DeepCutAuto
import Derived.Deep.CutBlock
import Derived.Deep.RegionHeld3
import Derived.Laws.Rows
import Derived.Lib.AppendStr
import Derived.ArgAppend
import Derived.Laws.IdiomCopy
import Derived.OrdersHeld
import Derived.Laws.BitsLemmas
import Derived.RowKit
import Derived.ChangeArms
import Derived.WideShapes
import Derived.OpenShut
import Derived.Deep.Slices
import Derived.Test.YthniclbmpeklmaaVmn2
section
namespace Go.Proofs.Ythniclbmpeklmaa.Ju
open Go.RowKit Go.Proofs.Ythniclbmpeklmaa.Au
set_option linter.unusedVariables false
set_option linter.unusedSimpArgs false
theorem right_op {e : Ev} (h : rightJ e = true) (hk : e.k = 3) : 1 ≤ e.op ∧ e.op ≤ 4 ∧ 0 ≤ e.ng ∧ 0 ≤ e.nn := by
 unfold rightJ Ev.evRight Ev.kindB at h
 rw [hk] at h
 simp at h
 omega
inductive Did (m : Md) (e : Ev) : Md → Prop
 | tick (hk : e.k = 1) (ht : e.t = wrap64 (m.clk + 1)) : Did m e { m with clk := e.t }
 | fire (hk : e.k = 4) (ha : m.st e.h = 1) (hd : m.dl e.h ≤ e.t) (hc : e.t ≤ m.clk) : Did m e (m.end_ e.h 2)
 | cancel (hk : e.k = 3) (ho : e.op = 2) (hy : e.y = true) (ha : m.st e.h = 1) : Did m e (m.end_ e.h 3)
 | same (hk : e.k = 3) (hm : mk1 e = false) (he : ends e = false) : Did m e m
 | start (hk : e.k = 3) (ho : e.op = 1) (he : e.er = 0) (hs : m.startOk e.new = true) : Did m e (m.arm e.new e.t)
 | rearm (hk : e.k = 3) (ho : e.op = 3) (he : e.er = 0) (ha : m.st e.h = 1) (h1 : e.nn = e.hn) (h2 : e.ng = wrap64 (e.hg + 1)) : Did m e ((m.end_ e.h 4).arm e.new e.t)
theorem did {m : Md} {e : Ev} (h : (doF m e).2 = 0) : rightJ e = true ∧ Did m e (doF m e).1 := by
 unfold doF at h ⊢
 by_cases hr : rightJ e = false
 ·rw [if_pos hr] at h; simp at h
 rw [if_neg hr] at h ⊢
 have hr' : rightJ e = true := by simpa using hr
 refine ⟨hr', ?_⟩
 by_cases k1 : e.k = 1
 ·rw [if_pos k1] at h ⊢
  by_cases ht : e.t = wrap64 (m.clk + 1)
  ·rw [if_pos ht]; exact .tick k1 ht
  ·rw [if_neg ht] at h; simp at h
 rw [if_neg k1] at h ⊢
 by_cases k4 : e.k = 4
 ·rw [if_pos k4] at h ⊢
  by_cases hc : m.st e.h = 1 ∧ m.dl e.h ≤ e.t ∧ e.t ≤ m.clk
  ·rw [if_pos hc]; exact .fire k4 hc.1 hc.2.1 hc.2.2
  ·rw [if_neg hc] at h; simp at h
 rw [if_neg k4] at h ⊢
 by_cases k3 : e.k = 3
 ·rw [if_pos k3] at h ⊢
  obtain ⟨o1, o4, _⟩ := right_op hr' k3
  unfold pointF at h ⊢
  by_cases c1 : e.op = 2 ∧ e.y = true
  ·rw [if_pos c1] at h ⊢
   by_cases ha : m.st e.h = 1
   ·rw [if_pos ha]; exact .cancel k3 c1.1 c1.2 ha
   ·rw [if_neg ha] at h; simp at h
  rw [if_neg c1] at h ⊢
  by_cases c2 : e.op = 2 ∨ (e.er = 4 ∧ e.op ≠ 1)
  ·rw [if_pos c2] at h ⊢
   have hs : Did m e m := .same k3 (by
    unfold mk1
    rcases c2 with c2 | ⟨c2, _⟩
    ·rw [c2]; simp
    ·rw [c2]; simp) (by
    unfold ends
    rcases c2 with c2 | ⟨c2, _⟩
    ·have : ¬ e.y = true := fun q => c1 ⟨c2, q⟩
     simp [c2, k3, this]
    ·simp [c2, k3]
     intro q
     have : ¬ e.y = true := fun z => c1 ⟨q, z⟩
     simpa using this)
   by_cases ha : m.st e.h = 1
   ·rw [if_pos ha] at h; simp at h
   ·rw [if_neg ha]; exact hs
  rw [if_neg c2] at h ⊢
  have n2 : e.op ≠ 2 := fun q => c2 (.inl q)
  by_cases c3 : e.er ≠ 0
  ·rw [if_pos c3]
   exact .same k3 (by unfold mk1; simp [c3]) (by unfold ends; simp [k3, n2, c3])
  rw [if_neg c3] at h ⊢
  have e0 : e.er = 0 := by omega
  by_cases c4 : e.op = 1
  ·rw [if_pos c4] at h ⊢
   by_cases hs : m.startOk e.new = true
   ·rw [if_pos hs]; exact .start k3 c4 e0 hs
   ·rw [if_neg hs] at h; simp at h
  rw [if_neg c4] at h ⊢
  by_cases c5 : e.op = 4
  ·rw [if_pos c5] at h ⊢
   have hs : Did m e m := .same k3 (by unfold mk1; simp [c5]) (by unfold ends; simp [k3, c5])
   by_cases ha : m.st e.h = 1
   ·rw [if_pos ha]; exact hs
   ·rw [if_neg ha] at h; simp at h
  rw [if_neg c5] at h ⊢
  by_cases hc : m.st e.h = 1 ∧ e.nn = e.hn ∧ e.ng = wrap64 (e.hg + 1)
  ·rw [if_pos hc]; exact .rearm k3 (by omega) e0 hc.1 hc.2.1 hc.2.2
  ·rw [if_neg hc] at h; simp at h
 ·rw [if_neg k3] at h; simp at h
structure MInv (m : Md) : Prop where
 top : ∀ h, m.fat h ≠ none → ∃ g, m.lst h.1 = some g ∧ h.2 ≤ g
 arm : ∀ h, m.st h = 1 → m.lst h.1 = some h.2
theorem st_fat {m : Md} {h : Ha} (hs : m.st h = 1) : m.fat h ≠ none := fun q => by unfold Md.st at hs; rw [q] at hs; simp at hs
theorem st_upd (m : Md) (h x : Ha) (v : Int × Int) : ({ m with fat := updF m.fat h v } : Md).st x = if x = h then v.1 else m.st x := by
 unfold Md.st updF
 by_cases e : x = h <;> simp [e]
theorem end_st (m : Md) (h x : Ha) (s : Int) : (m.end_ h s).st x = if x = h then s else m.st x := st_upd m h x (s, 0)
theorem arm_st (m : Md) (h x : Ha) (d : Int) : (m.arm h d).st x = if x = h then 1 else m.st x := st_upd m h x (1, d)
theorem end_fat (m : Md) (h x : Ha) (s : Int) : (m.end_ h s).fat x = if x = h then some (s, 0) else m.fat x := rfl
theorem arm_fat (m : Md) (h x : Ha) (d : Int) : (m.arm h d).fat x = if x = h then some (1, d) else m.fat x := rfl
theorem arm_lst (m : Md) (h : Ha) (d : Int) (n : Int) : (m.arm h d).lst n = if n = h.1 then some h.2 else m.lst n := rfl
theorem MInv0 : MInv md0 := ⟨fun h q => absurd rfl q, fun h q => by simp [md0, Md.st] at q⟩
theorem MInv.end_ {m : Md} (h : MInv m) {x : Ha} (hx : m.fat x ≠ none) {s : Int} (hs : s ≠ 1) : MInv (m.end_ x s) := by
 constructor
 ·intro y hy
  rw [end_fat] at hy
  by_cases e : y = x
  ·rw [e]; exact h.top x hx
  ·rw [if_neg e] at hy; exact h.top y hy
 ·intro y hy
  rw [end_st] at hy
  by_cases e : y = x
  ·rw [if_pos e] at hy; omega
  ·rw [if_neg e] at hy; exact h.arm y hy
theorem MInv.arm_ {m : Md} (h : MInv m) {x : Ha} {d : Int} (hn : ∀ g, m.lst x.1 = some g → g < x.2) (ha : ∀ y : Ha, y.1 = x.1 → m.st y ≠ 1) : MInv (m.arm x d) := by
 constructor
 ·intro y hy
  rw [arm_fat] at hy
  rw [arm_lst]
  by_cases e : y = x
  ·rw [e, if_pos rfl]; exact ⟨_, rfl, Int.le_refl _⟩
  ·rw [if_neg e] at hy
   obtain ⟨g, h1, h2⟩ := h.top y hy
   by_cases e1 : y.1 = x.1
   ·rw [if_pos e1]
    rw [e1] at h1
    have := hn g h1
    exact ⟨_, rfl, by omega⟩
   ·rw [if_neg e1]; exact ⟨g, h1, h2⟩
 ·intro y hy
  rw [arm_st] at hy
  rw [arm_lst]
  by_cases e : y = x
  ·rw [e, if_pos rfl]
  ·rw [if_neg e] at hy
   have e1 : y.1 ≠ x.1 := fun q => ha y q hy
   rw [if_neg e1]
   exact h.arm y hy
theorem MInv.start {m : Md} (h : MInv m) {x : Ha} (hs : m.startOk x = true) : (∀ g, m.lst x.1 = some g → g < x.2) ∧ (∀ y : Ha, y.1 = x.1 → m.st y ≠ 1) ∧ m.fat x = none := by
 unfold Md.startOk at hs
 have h1 : ∀ g, m.lst x.1 = some g → m.st (x.1, g) ≠ 1 ∧ g < x.2 := fun g hg => by
  rw [hg] at hs
  simpa using hs
 refine ⟨fun g hg => (h1 g hg).2, fun y hy hq => ?_, ?_⟩
 ·have := h.arm y hq
  rw [hy] at this
  have := (h1 _ this).1
  rw [← hy] at this
  exact this hq
 ·cases hf : m.fat x with
  | none => rfl
  | some v =>
   obtain ⟨g, hg, hle⟩ := h.top x (by rw [hf]; simp)
   have := (h1 g hg).2
   omega
theorem wrap_next {g n : Int} (hg : (Lit.int .i64 g).wf = true) (h0 : 0 ≤ n) (h : n = wrap64 (g + 1)) : n = g + 1 := by
 have h1 : IntKind.i64.min = -9223372036854775808 := rfl
 simp [Lit.wf, h1] at hg
 unfold wrap64 at h
 omega
theorem MInv.rearm {m : Md} (h : MInv m) {x y : Ha} (ha : m.st x = 1) (h1 : y.1 = x.1) (h2 : y.2 = x.2 + 1) {d : Int} : m.fat y = none ∧ MInv ((m.end_ x 4).arm y d) := by
 have hl := h.arm x ha
 have hx := st_fat ha
 have hy : m.fat y = none := by
  cases hf : m.fat y with
  | none => rfl
  | some v =>
   obtain ⟨g, hg, hle⟩ := h.top y (by rw [hf]; simp)
   rw [h1, hl] at hg
   have := Option.some.inj hg
   omega
 refine ⟨hy, (h.end_ hx (by omega)).arm_ (fun g hg => ?_) (fun z hz hq => ?_)⟩
 ·have hg' : m.lst y.1 = some g := hg
  rw [h1, hl] at hg'
  have := Option.some.inj hg'
  omega
 ·rw [end_st] at hq
  by_cases e : z = x
  ·rw [if_pos e] at hq; omega
  ·rw [if_neg e] at hq
   have h3 := h.arm z hq
   rw [hz, h1, hl] at h3
   exact e (Prod.ext (hz.trans h1) (Option.some.inj h3).symm)
theorem MInv.did {m m' : Md} {e : Ev} (h : MInv m) (hr : rightJ e = true) (hw : (Lit.int .i64 e.hg).wf = true) (hd : Did m e m') : MInv m' := by
 cases hd with
 | tick => exact ⟨h.top, h.arm⟩
 | fire hk ha => exact h.end_ (st_fat ha) (by omega)
 | cancel hk ho hy ha => exact h.end_ (st_fat ha) (by omega)
 | same => exact h
 | start hk ho he hs =>
  obtain ⟨a, b, c⟩ := h.start hs
  exact h.arm_ a b
 | rearm hk ho he ha h1 h2 => exact (h.rearm ha h1 (wrap_next hw (right_op hr hk).2.2.1 h2)).2
end Go.Proofs.Ythniclbmpeklmaa.Ju
end
section
namespace Go.Proofs.Ythniclbmpeklmaa.Ju
open Go.RowKit Go.Maps Go.Proofs.YthniclbmpeklmaaW.PrintWords Go.Proofs.YthniclbmpeklmaaW.PrintLast Go.Proofs.YthniclbmpeklmaaW.PrintMore Go.Proofs.Ythniclbmpeklmaa.Mp Go.Proofs.Ythniclbmpeklmaa.Au
set_option linter.unusedVariables false
set_option linter.unusedSimpArgs false
attribute [local go_sem high] Ev.eqHa
section
variable {w W W1 : World} {B : Nat}
end
section
variable {w W W1 : World} {B b n mb m1 m2 m3 eb : Nat} {s : Be} {pf : Int → Option Nat} {e : Ev}
end
section
variable {w W W1 : World} {B b n mb m1 m2 m3 eb g : Nat} {s : Be} {pf : Int → Option Nat} {e iv : Ev} {beg : Int} {pp : Option Addr}
end
end Go.Proofs.Ythniclbmpeklmaa.Ju
end
section
namespace Go.Proofs.Ythniclbmpeklmaa.Ju
open Go.RowKit Go.Maps Go.Proofs.YthniclbmpeklmaaW.PrintWords Go.Proofs.YthniclbmpeklmaaW.PrintLast Go.Proofs.YthniclbmpeklmaaW.PrintMore Go.Proofs.Ythniclbmpeklmaa.Mp Go.Proofs.Ythniclbmpeklmaa.Au
set_option linter.unusedVariables false
set_option linter.unusedSimpArgs false
attribute [local go_sem high] Ev.eqHa
end Go.Proofs.Ythniclbmpeklmaa.Ju
end
section
namespace Go.Proofs.Ythniclbmpeklmaa.Ju
open Go.RowKit Go.Maps Go.Proofs.YthniclbmpeklmaaW.PrintWords Go.Proofs.YthniclbmpeklmaaW.PrintLast Go.Proofs.YthniclbmpeklmaaW.PrintMore Go.Proofs.Ythniclbmpeklmaa.Mp Go.Proofs.Ythniclbmpeklmaa.Au
set_option linter.unusedVariables false
set_option linter.unusedSimpArgs false
attribute [local go_sem high] Ev.eqHa
end Go.Proofs.Ythniclbmpeklmaa.Ju
end
section
namespace Go.Proofs.Ythniclbmpeklmaa.Ju
open Go.RowKit Go.Maps Go.Proofs.YthniclbmpeklmaaW.PrintWords Go.Proofs.YthniclbmpeklmaaW.PrintLast Go.Proofs.YthniclbmpeklmaaW.PrintMore Go.Proofs.Ythniclbmpeklmaa.Mp Go.Proofs.Ythniclbmpeklmaa.Au
set_option linter.unusedVariables false
set_option linter.unusedSimpArgs false
def wfJ (e : Ev) : Prop := ((Lit.int .i64 e.hn).wf = true ∧ (Lit.int .i64 e.hg).wf = true ∧ (Lit.int .i64 e.nn).wf = true ∧ (Lit.int .i64 e.ng).wf = true) ∧ (Lit.int .i64 e.wk).wf = true
def LstOk (m : Md) : Prop := ∀ x, (Lit.int .i64 ((m.lst x).getD 0)).wf = true
theorem lst_arm {m : Md} (h : LstOk m) {x : Ha} {d : Int} (hx : (Lit.int .i64 x.2).wf = true) : LstOk (m.arm x d) := fun y => by
 show (Lit.int .i64 ((updL m.lst x.1 x.2 y).getD 0)).wf = true
 unfold updL
 by_cases q : y = x.1
 ·rw [if_pos q]; exact hx
 ·rw [if_neg q]; exact h y
theorem lst_end {m : Md} (h : LstOk m) (x : Ha) (s : Int) : LstOk (m.end_ x s) := h
theorem lst_point {m : Md} {e : Ev} (h : LstOk m) (hw : wfJ e) : LstOk (pointF m e).1 := by
 unfold pointF
 split
 ·split
  ·exact lst_end h _ _
  ·exact h
 ·split
  ·split <;> exact h
  ·split
   ·exact h
   ·split
    ·split
     ·exact lst_arm h hw.1.2.2.2
     ·exact h
    ·split
     ·split <;> exact h
     ·split
      ·exact lst_arm (lst_end h _ _) hw.1.2.2.2
      ·exact h
theorem lst_do {m : Md} {e : Ev} (h : LstOk m) (hw : wfJ e) : LstOk (doF m e).1 := by
 have hp := lst_point h hw
 unfold doF
 generalize pointF m e = q at hp ⊢
 split
 ·exact h
 ·split
  ·split <;> exact h
  ·split
   ·split
    ·exact lst_end h _ _
    ·exact h
   ·split
    ·exact hp
    ·exact h
def EvIn (w : World) (A : Option Addr) (i : Nat) (e : Ev) : Prop := ∃ ad, A = some ad ∧ w.cell? (ad.add (i * 12)) = some (.int .i64 e.k) ∧ w.cell? ⟨(ad.add (i * 12)).block, (ad.add (i * 12)).off + 1, none⟩ = some (.int .i64 e.wk) ∧ w.cell? ⟨(ad.add (i * 12)).block, (ad.add (i * 12)).off + 2, none⟩ = some (.int .i64 e.op) ∧ w.cell? ⟨(ad.add (i * 12)).block, (ad.add (i * 12)).off + 3, none⟩ = some (.int .i64 e.hn) ∧ w.cell? ⟨(ad.add (i * 12)).block, (ad.add (i * 12)).off + 4, none⟩ = some (.int .i64 e.hg) ∧ w.cell? ⟨(ad.add (i * 12)).block, (ad.add (i * 12)).off + 5, none⟩ = some (.int .i64 e.nn) ∧ w.cell? ⟨(ad.add (i * 12)).block, (ad.add (i * 12)).off + 6, none⟩ = some (.int .i64 e.ng) ∧ w.cell? ⟨(ad.add (i * 12)).block, (ad.add (i * 12)).off + 7, none⟩ = some (.int .i64 e.t) ∧ w.cell? ⟨(ad.add (i * 12)).block, (ad.add (i * 12)).off + 8, none⟩ = some (.int .i64 e.a) ∧ w.cell? ⟨(ad.add (i * 12)).block, (ad.add (i * 12)).off + 9, none⟩ = some (.int .i64 e.u) ∧ w.cell? ⟨(ad.add (i * 12)).block, (ad.add (i * 12)).off + 10, none⟩ = some (.bool e.y) ∧ w.cell? ⟨(ad.add (i * 12)).block, (ad.add (i * 12)).off + 11, none⟩ = some (.int .i64 e.er)
theorem EvIn.below {w w1 : World} {A : Option Addr} {i : Nat} {e : Ev} (h : EvIn w A i e) (hb : Below w.heap.size w w1) : EvIn w1 A i e := by
 obtain ⟨ad, h0, h1, h2, h3, h4, h5, h6, h7, h8, h9, h10, h11, h12⟩ := h
 exact ⟨ad, h0, (pw_cell_below hb h1), (pw_cell_below hb h2), (pw_cell_below hb h3), (pw_cell_below hb h4), (pw_cell_below hb h5), (pw_cell_below hb h6), (pw_cell_below hb h7), (pw_cell_below hb h8), (pw_cell_below hb h9), (pw_cell_below hb h10), (pw_cell_below hb h11), (pw_cell_below hb h12)⟩
end Go.Proofs.Ythniclbmpeklmaa.Ju
end
section
namespace Go.Proofs.Ythniclbmpeklmaa.Ju
open Go.RowKit Go.Maps Go.Proofs.YthniclbmpeklmaaW.PrintWords Go.Proofs.YthniclbmpeklmaaW.PrintLast Go.Proofs.YthniclbmpeklmaaW.PrintMore Go.Proofs.Ythniclbmpeklmaa.Mp Go.Proofs.Ythniclbmpeklmaa.Au
set_option linter.unusedVariables false
set_option linter.unusedSimpArgs false
def wfB' (e : Ev) : Bool := (Lit.int .i64 e.wk).wf && (Lit.int .i64 e.hn).wf && (Lit.int .i64 e.hg).wf && (Lit.int .i64 e.nn).wf && (Lit.int .i64 e.ng).wf
theorem wfJ_of {e : Ev} (h : wfB' e = true) : wfJ e := by
 simp only [wfB', Bool.and_eq_true] at h
 exact ⟨⟨h.1.1.1.2, h.1.1.2, h.1.2, h.2⟩, h.1.1.1.1⟩
end Go.Proofs.Ythniclbmpeklmaa.Ju
end
section
namespace Go.Proofs.Ythniclbmpeklmaa.Mo
open Go.RowKit Go.Maps Go.Proofs.YthniclbmpeklmaaW.PrintWords Go.Proofs.YthniclbmpeklmaaW.PrintLast Go.Proofs.YthniclbmpeklmaaW.PrintMore Go.Proofs.Ythniclbmpeklmaa.Mp Go.Proofs.Ythniclbmpeklmaa.Ju
open Go.Proofs.Ythniclbmpeklmaa.Au (Ha RowIs flat_get flat_len haV lawH types_ne evA Ev Fr)
set_option linter.unusedVariables false
set_option linter.unusedSimpArgs false
def NonNeg (m : Md) : Prop := ∀ h d, m.fat h = some (1, d) → 0 ≤ d
theorem right_t {e : Ev} (h : rightJ e = true) (hk : e.k = 3) : 0 ≤ e.t := by
 unfold rightJ Ev.evRight at h
 rw [hk] at h
 simp at h
 omega
theorem nn_end {m : Md} (h : NonNeg m) (x : Ha) (s : Int) (hs : s ≠ 1) : NonNeg (m.end_ x s) := fun y d q => by
 rw [end_fat] at q
 by_cases e : y = x
 ·rw [if_pos e] at q; exact absurd (congrArg Prod.fst (Option.some.inj q)) hs
 ·rw [if_neg e] at q; exact h y d q
theorem nn_arm {m : Md} (h : NonNeg m) (x : Ha) {t : Int} (ht : 0 ≤ t) : NonNeg (m.arm x t) := fun y d q => by
 rw [arm_fat] at q
 by_cases e : y = x
 ·rw [if_pos e] at q
  have := congrArg Prod.snd (Option.some.inj q)
  simp at this
  omega
 ·rw [if_neg e] at q; exact h y d q
theorem do_fail {m : Md} {e : Ev} (h : (doF m e).2 ≠ 0) : (doF m e).1 = m := by
 unfold doF pointF at h ⊢
 repeat' split
 all_goals first
  | rfl
  | (simp_all; done)
structure MOk (m : Md) : Prop where
 inv : MInv m
 nn : NonNeg m
 lst : LstOk m
theorem MOk0 : MOk md0 := ⟨MInv0, fun h d q => by simp [md0] at q, fun x => by rfl⟩
theorem MOk.step {m : Md} (h : MOk m) {e : Ev} (hw : wfJ e) : MOk (doF m e).1 := by
 by_cases hz : (doF m e).2 = 0
 ·obtain ⟨hr, hd⟩ := did hz
  refine ⟨h.inv.did hr hw.1.2.1 hd, ?_, lst_do h.lst hw⟩
  generalize (doF m e).1 = m' at hd
  cases hd with
  | tick hk ht => exact h.nn
  | fire hk ha hd hc => exact nn_end h.nn _ _ (by decide)
  | cancel hk ho hy ha => exact nn_end h.nn _ _ (by decide)
  | same hk hm he => exact h.nn
  | start hk ho he hs => exact nn_arm h.nn _ (right_t hr hk)
  | rearm hk ho he ha h1 h2 => exact nn_arm (nn_end h.nn _ _ (by decide)) _ (right_t hr hk)
 ·rw [do_fail hz]; exact h
theorem MOk.node {m : Md} (h : MOk m) {x y : Ha} {d d' : Int} (hx : m.fat x = some (1, d)) (hy : m.fat y = some (1, d')) (hn : x.1 = y.1) : x = y := by
 have h1 := h.inv.arm x (by unfold Md.st; rw [hx]; rfl)
 have h2 := h.inv.arm y (by unfold Md.st; rw [hy]; rfl)
 rw [hn, h2] at h1
 exact Prod.ext hn (Option.some.inj h1).symm
theorem MdIs.lower {w : World} {B B' b n m1 m2 : Nat} {m : Md} (h : MdIs w B b n m m1 m2) (hB : B' ≤ B) : MdIs w B' b n m m1 m2 := ⟨h.blk, h.mf, h.ml, Nat.le_trans hB h.hb, Nat.le_trans hB h.h1, Nat.le_trans hB h.h2, h.m12⟩
def spS : Ev := ⟨3, 0, 1, 0, 0, 0, 1, 1, 0, 0, false, 0⟩
def spF : Ev := ⟨4, 0, 0, 0, 1, 0, 0, 1, 0, 0, false, 0⟩
def spT : Ev := ⟨1, 0, 0, 0, 0, 0, 0, 1, 0, 0, false, 0⟩
def sp1 : Md := (doF md0 spS).1
def sp2 : Md := (doF sp1 spF).1
def sp3 : Md := (doF sp2 spT).1
def sp4 : Md := (doF sp3 spF).1
theorem sp_is : (doF md0 spS).2 = 0 ∧ (doF sp1 spF).2 = 6 ∧ (doF sp2 spT).2 = 0 ∧ (doF sp3 spF).2 = 0 ∧ (doF sp4 spF).2 = 6 := by decide +kernel
structure Mw (w W : World) (b m1 m2 n : Nat) (m : Md) : Prop where
 md : MdIs W w.heap.size b n m m1 m2
 bel : Below w.heap.size w W
 ok : MOk m
theorem Mw.step {w W W1 : World} {b m1 m2 n : Nat} {m : Md} (h : Mw w W b m1 m2 n m) (hb : Below W.heap.size W W1) : Mw w W1 b m1 m2 n m := ⟨h.md.below hb, below_step h.bel hb, h.ok⟩
theorem Mw.alloc {w W : World} {b m1 m2 n : Nat} {m : Md} (h : Mw w W b m1 m2 n m) (o : Obj) : Mw w (W.alloc o) b m1 m2 n m := h.step (below_alloc (Below.refl _ _) o)
theorem Mw.doing {w W : World} {b m1 m2 n : Nat} {m : Md} (h : Mw w W b m1 m2 n m) (hn : n + 1 ≤ 1000000) {e : Ev} (hw : wfJ e) :
  Calls Try.prog 43 #[pA b, .agg (evA e)] W fun r w' => r = .returned (.int .i64 (doF m e).2) ∧ Mw w w' b m1 m2 (n + 3) (doF m e).1 ∧ Fr W w' (mdS b m1 m2) := by
 refine (do_any e hw.1 hn h.ok.lst h.md).mono ?_
 rintro r w' ⟨h1, h2, h3⟩
 refine ⟨h1, ⟨h2.up (by omega), h.bel.trans (h3.below h.bel.size ?_), h.ok.step hw⟩, h3⟩
 rintro g (q | q | q)
 ·rw [q]; exact h.md.hb
 ·rw [q]; exact h.md.h1
 ·rw [q]; exact h.md.h2
theorem fr_cells {W W1 : World} {B b n m1 m2 g : Nat} {m : Md} {cs : Array Value} {t : TypeId} (hf : Fr W W1 (mdS b m1 m2)) (h : MdIs W B b n m m1 m2) (hg : W.heap[g]? = some (.cells cs t (0, 0))) (ht : t ≠ 125) : W1.heap[g]? = some (.cells cs t (0, 0)) := by
 refine hf.blk hg ?_
 rintro (q | q | q)
 ·exact types_ne hg h.blk ht q
 ·obtain ⟨z, _, hz⟩ := h.mf; obtain ⟨_, _, hq⟩ := hz.block; exact Go.Proofs.Ythniclbmpeklmaa.Au.map_ne hg hq q
 ·obtain ⟨z, _, hz⟩ := h.ml; obtain ⟨_, _, hq⟩ := hz.block; exact Go.Proofs.Ythniclbmpeklmaa.Au.map_ne hg hq q
set_option maxHeartbeats 8000000 in
set_option maxRecDepth 100000 in
theorem speaks12 (w : World) : Calls Try.prog 39 #[] w fun r w' => r = .returned (.bool true) ∧ Below w.heap.size w w' := by
 have hu2 := Try.underlying34
 have hu3 := Try.underlying54
 have CN := Aside0.mk (model_new w)
 have HR := Aside0.mk sp_is
 have D1 : Aside0 (∀ W b m1 m2, Mw w W b m1 m2 0 md0 → Calls Try.prog 43 #[pA b, .agg #[.int .i64 3, .int .i64 0, .int .i64 1, .int .i64 0, .int .i64 0, .int .i64 0, .int .i64 1, .int .i64 1, .int .i64 0, .int .i64 0, .bool false, .int .i64 0]] W fun r w' => r = .returned (.int .i64 0) ∧ Mw w w' b m1 m2 3 sp1 ∧ Fr W w' (mdS b m1 m2)) := ⟨fun W b m1 m2 h => by have q := h.doing (e := spS) (by omega) (wfJ_of (by decide)); rw [HR.out.1] at q; exact q⟩
 have D2 : Aside0 (∀ W b m1 m2, Mw w W b m1 m2 3 sp1 → Calls Try.prog 43 #[pA b, .agg #[.int .i64 4, .int .i64 0, .int .i64 0, .int .i64 0, .int .i64 1, .int .i64 0, .int .i64 0, .int .i64 1, .int .i64 0, .int .i64 0, .bool false, .int .i64 0]] W fun r w' => r = .returned (.int .i64 6) ∧ Mw w w' b m1 m2 6 sp2 ∧ Fr W w' (mdS b m1 m2)) := ⟨fun W b m1 m2 h => by have q := h.doing (e := spF) (by omega) (wfJ_of (by decide)); rw [HR.out.2.1] at q; exact q⟩
 have D3 : Aside0 (∀ W b m1 m2, Mw w W b m1 m2 6 sp2 → Calls Try.prog 43 #[pA b, .agg #[.int .i64 1, .int .i64 0, .int .i64 0, .int .i64 0, .int .i64 0, .int .i64 0, .int .i64 0, .int .i64 1, .int .i64 0, .int .i64 0, .bool false, .int .i64 0]] W fun r w' => r = .returned (.int .i64 0) ∧ Mw w w' b m1 m2 9 sp3 ∧ Fr W w' (mdS b m1 m2)) := ⟨fun W b m1 m2 h => by have q := h.doing (e := spT) (by omega) (wfJ_of (by decide)); rw [HR.out.2.2.1] at q; exact q⟩
 have D4 : Aside0 (∀ W b m1 m2, Mw w W b m1 m2 9 sp3 → Calls Try.prog 43 #[pA b, .agg #[.int .i64 4, .int .i64 0, .int .i64 0, .int .i64 0, .int .i64 1, .int .i64 0, .int .i64 0, .int .i64 1, .int .i64 0, .int .i64 0, .bool false, .int .i64 0]] W fun r w' => r = .returned (.int .i64 0) ∧ Mw w w' b m1 m2 12 sp4 ∧ Fr W w' (mdS b m1 m2)) := ⟨fun W b m1 m2 h => by have q := h.doing (e := spF) (by omega) (wfJ_of (by decide)); rw [HR.out.2.2.2.1] at q; exact q⟩
 have D5 : Aside0 (∀ W b m1 m2, Mw w W b m1 m2 12 sp4 → Calls Try.prog 43 #[pA b, .agg #[.int .i64 4, .int .i64 0, .int .i64 0, .int .i64 0, .int .i64 1, .int .i64 0, .int .i64 0, .int .i64 1, .int .i64 0, .int .i64 0, .bool false, .int .i64 0]] W fun r w' => r = .returned (.int .i64 6) ∧ Below w.heap.size w w') := ⟨fun W b m1 m2 h => by have q := h.doing (e := spF) (by omega) (wfJ_of (by decide)); rw [HR.out.2.2.2.2] at q; exact q.mono fun _ _ h => ⟨h.1, h.2.1.bel⟩⟩
 go_enter Try.func39, Try.ntmps39
 go_upto_region 4 with (go_at_call 40; (with_reducible refine CN.out.mono ?_); rintro r w2 ⟨rfl, hmd, hb⟩; have H2 := Aside0.mk (show Mw w w2 (w.heap.size + 1 + 1) w.heap.size (w.heap.size + 1) 0 md0 from ⟨hmd, hb, MOk0⟩); clear hmd hb)
 have H3 := Aside0.mk (And.intro (H2.out.alloc (.cells #[.int .i64 0, .int .i64 1] 34)) (blk_new w2 (.cells #[.int .i64 0, .int .i64 1] 34)))
 have hl := blk_lt H3.out.2
 have hc := fun i => blk_cell H3.out.2 i
 go_upto_region 6 with (go_at_call 43; (with_reducible refine (D1.out _ _ _ _ H3.out.1).mono ?_); rintro r w3 ⟨rfl, hm, hf⟩; have H4 := Aside0.mk (And.intro hm (fr_cells hf H3.out.1.md H3.out.2 (by decide))); clear hm hf hl hc; have hl := blk_lt H4.out.2; have hc := fun i => blk_cell H4.out.2 i)
 have H5 := Aside0.mk (And.intro (H4.out.1.alloc (.cells #[.int .i64 4, .int .i64 0, .int .i64 0, .int .i64 0, .int .i64 1, .int .i64 0, .int .i64 0, .int .i64 1, .int .i64 0, .int .i64 0, .bool false, .int .i64 0] 54)) (blk_new w3 (.cells #[.int .i64 4, .int .i64 0, .int .i64 0, .int .i64 0, .int .i64 1, .int .i64 0, .int .i64 0, .int .i64 1, .int .i64 0, .int .i64 0, .bool false, .int .i64 0] 54)))
 go_upto_region 7 with (fail)
 clear hl hc
 have hl := blk_lt H5.out.2
 have hc := fun i => blk_cell H5.out.2 i
 go_upto_region 8 with (go_at_call 43; (with_reducible refine (D2.out _ _ _ _ H5.out.1).mono ?_); rintro r w4 ⟨rfl, hm, hf⟩; have H6 := Aside0.mk (And.intro hm (fr_cells hf H5.out.1.md H5.out.2 (by decide))); clear hm hf hl hc)
 go_upto_region 9 with (go_at_call 43; (with_reducible refine (D3.out _ _ _ _ H6.out.1).mono ?_); rintro r w5 ⟨rfl, hm, hf⟩; have H7 := Aside0.mk (And.intro hm (fr_cells hf H6.out.1.md H6.out.2 (by decide))); clear hm hf)
 have hl := blk_lt H7.out.2
 have hc := fun i => blk_cell H7.out.2 i
 go_wp2_with (first
  | (go_at_call 43; (with_reducible refine (D4.out _ _ _ _ H7.out.1).mono ?_); rintro r w6 ⟨rfl, hm, hf⟩; have H8 := Aside0.mk (And.intro hm (fr_cells hf H7.out.1.md H7.out.2 (by decide))); clear hm hf hl hc H7; have hl := blk_lt H8.out.2; have hc := fun i => blk_cell H8.out.2 i)
  | (go_at_call 43; (with_reducible refine (D5.out _ _ _ _ H8.out.1).mono ?_); rintro r w7 ⟨rfl, hb⟩; have H9 := Aside0.mk hb; clear hb))
 go_ret
 exact ⟨rfl, H9.out⟩
end Go.Proofs.Ythniclbmpeklmaa.Mo
end
section
namespace Go.Proofs.Ythniclbmpeklmaa.KJf
open Go.RowKit Go.Proofs.YthniclbmpeklmaaW.PrintWords Go.Proofs.YthniclbmpeklmaaW.PrintLast Go.Proofs.YthniclbmpeklmaaW.PrintMore
attribute [local go_sem] max2_int min2_int max_two min_two max_three min_three max_four min_four   -- for this text's walks alone
set_option linter.unusedVariables false
set_option linter.unusedSimpArgs false
def errW : Option Int → Value
 | none => .nilIface
 | some c => .iface 0 (.int .i64 c)
theorem errW_none : errW none = .nilIface := rfl
theorem errW_some (c : Int) : errW (some c) = .iface 0 (.int .i64 c) := rfl
structure S36 where
 f0 : Int
 f1 : Int
def z36 : S36 := ⟨(0 : Int), (0 : Int)⟩
def k36 : Kd S36 := Kd.iso (Kd.pair (Kd.int .i64) (Kd.int .i64)) (fun x : S36 => (x.f0, x.f1))
theorem k36_open {w : World} {x : S36} {cs : List Value} (h : k36.K w x cs) : cs = [.int .i64 x.f0, .int .i64 x.f1] := by
 obtain ⟨_, _, rfl, rfl, rfl⟩ := h
 exact rfl
theorem k36_mk (w : World) (x : S36)  : k36.K w x [.int .i64 x.f0, .int .i64 x.f1] := ⟨[.int .i64 x.f0], [.int .i64 x.f1], rfl, rfl, rfl⟩
structure S50 where
 f0 : Int
 f1 : Int
 f2 : Int
 f3 : S36
 f4 : S36
 f5 : Int
 f6 : Int
 f7 : Int
 f8 : Bool
 f9 : Int
def z50 : S50 := ⟨(0 : Int), (0 : Int), (0 : Int), z36, z36, (0 : Int), (0 : Int), (0 : Int), false, (0 : Int)⟩
def k50 : Kd S50 := Kd.iso (Kd.pair (Kd.int .i64) (Kd.pair (Kd.int .i64) (Kd.pair (Kd.int .i64) (Kd.pair k36 (Kd.pair k36 (Kd.pair (Kd.int .i64) (Kd.pair (Kd.int .i64) (Kd.pair (Kd.int .i64) (Kd.pair Kd.bool (Kd.int .i64)))))))))) (fun x : S50 => (x.f0, x.f1, x.f2, x.f3, x.f4, x.f5, x.f6, x.f7, x.f8, x.f9))
theorem k50_open {w : World} {x : S50} {cs : List Value} (h : k50.K w x cs) : cs = [.int .i64 x.f0, .int .i64 x.f1, .int .i64 x.f2, .int .i64 x.f3.f0, .int .i64 x.f3.f1, .int .i64 x.f4.f0, .int .i64 x.f4.f1, .int .i64 x.f5, .int .i64 x.f6, .int .i64 x.f7, .bool x.f8, .int .i64 x.f9] := by
 obtain ⟨_, _, rfl, rfl, ⟨_, _, rfl, rfl, ⟨_, _, rfl, rfl, ⟨_, _, rfl, s3, ⟨_, _, rfl, s5, ⟨_, _, rfl, rfl, ⟨_, _, rfl, rfl, ⟨_, _, rfl, rfl, ⟨_, _, rfl, rfl, rfl⟩⟩⟩⟩⟩⟩⟩⟩⟩ := h
 obtain rfl := k36_open s3
 obtain rfl := k36_open s5
 exact rfl
theorem k50_mk (w : World) (x : S50)  : k50.K w x [.int .i64 x.f0, .int .i64 x.f1, .int .i64 x.f2, .int .i64 x.f3.f0, .int .i64 x.f3.f1, .int .i64 x.f4.f0, .int .i64 x.f4.f1, .int .i64 x.f5, .int .i64 x.f6, .int .i64 x.f7, .bool x.f8, .int .i64 x.f9] := ⟨[.int .i64 x.f0], [.int .i64 x.f1, .int .i64 x.f2, .int .i64 x.f3.f0, .int .i64 x.f3.f1, .int .i64 x.f4.f0, .int .i64 x.f4.f1, .int .i64 x.f5, .int .i64 x.f6, .int .i64 x.f7, .bool x.f8, .int .i64 x.f9], rfl, rfl, ⟨[.int .i64 x.f1], [.int .i64 x.f2, .int .i64 x.f3.f0, .int .i64 x.f3.f1, .int .i64 x.f4.f0, .int .i64 x.f4.f1, .int .i64 x.f5, .int .i64 x.f6, .int .i64 x.f7, .bool x.f8, .int .i64 x.f9], rfl, rfl, ⟨[.int .i64 x.f2], [.int .i64 x.f3.f0, .int .i64 x.f3.f1, .int .i64 x.f4.f0, .int .i64 x.f4.f1, .int .i64 x.f5, .int .i64 x.f6, .int .i64 x.f7, .bool x.f8, .int .i64 x.f9], rfl, rfl, ⟨[.int .i64 x.f3.f0, .int .i64 x.f3.f1], [.int .i64 x.f4.f0, .int .i64 x.f4.f1, .int .i64 x.f5, .int .i64 x.f6, .int .i64 x.f7, .bool x.f8, .int .i64 x.f9], rfl, (k36_mk w x.f3 ), ⟨[.int .i64 x.f4.f0, .int .i64 x.f4.f1], [.int .i64 x.f5, .int .i64 x.f6, .int .i64 x.f7, .bool x.f8, .int .i64 x.f9], rfl, (k36_mk w x.f4 ), ⟨[.int .i64 x.f5], [.int .i64 x.f6, .int .i64 x.f7, .bool x.f8, .int .i64 x.f9], rfl, rfl, ⟨[.int .i64 x.f6], [.int .i64 x.f7, .bool x.f8, .int .i64 x.f9], rfl, rfl, ⟨[.int .i64 x.f7], [.bool x.f8, .int .i64 x.f9], rfl, rfl, ⟨[.bool x.f8], [.int .i64 x.f9], rfl, rfl, rfl⟩⟩⟩⟩⟩⟩⟩⟩⟩
def rd_T50 (xs : List S50) (i : Int) : S50 := xs.getD i.toNat z50
theorem at_T50 {w : World} {A : Option Addr} {n : Nat} {xs : List S50} (h : Kd.C k50 w A n xs) (i : Int) (h0 : 0 ≤ i) (h1 : i < n) : ∃ ad , A = some ad ∧ w.cell? (ad.add (i.toNat * 12)) = some (.int .i64 (rd_T50 xs i).f0) ∧ w.cell? ⟨(ad.add (i.toNat * 12)).block, (ad.add (i.toNat * 12)).off + 1, none⟩ = some (.int .i64 (rd_T50 xs i).f1) ∧ w.cell? ⟨(ad.add (i.toNat * 12)).block, (ad.add (i.toNat * 12)).off + 2, none⟩ = some (.int .i64 (rd_T50 xs i).f2) ∧ w.cell? ⟨(ad.add (i.toNat * 12)).block, (ad.add (i.toNat * 12)).off + 3, none⟩ = some (.int .i64 (rd_T50 xs i).f3.f0) ∧ w.cell? ⟨(ad.add (i.toNat * 12)).block, (ad.add (i.toNat * 12)).off + 4, none⟩ = some (.int .i64 (rd_T50 xs i).f3.f1) ∧ w.cell? ⟨(ad.add (i.toNat * 12)).block, (ad.add (i.toNat * 12)).off + 5, none⟩ = some (.int .i64 (rd_T50 xs i).f4.f0) ∧ w.cell? ⟨(ad.add (i.toNat * 12)).block, (ad.add (i.toNat * 12)).off + 6, none⟩ = some (.int .i64 (rd_T50 xs i).f4.f1) ∧ w.cell? ⟨(ad.add (i.toNat * 12)).block, (ad.add (i.toNat * 12)).off + 7, none⟩ = some (.int .i64 (rd_T50 xs i).f5) ∧ w.cell? ⟨(ad.add (i.toNat * 12)).block, (ad.add (i.toNat * 12)).off + 8, none⟩ = some (.int .i64 (rd_T50 xs i).f6) ∧ w.cell? ⟨(ad.add (i.toNat * 12)).block, (ad.add (i.toNat * 12)).off + 9, none⟩ = some (.int .i64 (rd_T50 xs i).f7) ∧ w.cell? ⟨(ad.add (i.toNat * 12)).block, (ad.add (i.toNat * 12)).off + 10, none⟩ = some (.bool (rd_T50 xs i).f8) ∧ w.cell? ⟨(ad.add (i.toNat * 12)).block, (ad.add (i.toNat * 12)).off + 11, none⟩ = some (.int .i64 (rd_T50 xs i).f9) := by
 obtain ⟨ad, c, e, _, hK, hc0⟩ := Kd.C_get h z50 i h0 h1
 have hc : ∀ j u, c[j]? = some u → w.cell? (ad.add (i.toNat * 12 + j)) = some u := hc0
 obtain rfl := k50_open hK
 exact ⟨ad, e, hc 0 _ rfl, by rw [← add_field _ _ 1 (by omega)]; exact hc 1 _ rfl, by rw [← add_field _ _ 2 (by omega)]; exact hc 2 _ rfl, by rw [← add_field _ _ 3 (by omega)]; exact hc 3 _ rfl, by rw [← add_field _ _ 4 (by omega)]; exact hc 4 _ rfl, by rw [← add_field _ _ 5 (by omega)]; exact hc 5 _ rfl, by rw [← add_field _ _ 6 (by omega)]; exact hc 6 _ rfl, by rw [← add_field _ _ 7 (by omega)]; exact hc 7 _ rfl, by rw [← add_field _ _ 8 (by omega)]; exact hc 8 _ rfl, by rw [← add_field _ _ 9 (by omega)]; exact hc 9 _ rfl, by rw [← add_field _ _ 10 (by omega)]; exact hc 10 _ rfl, by rw [← add_field _ _ 11 (by omega)]; exact hc 11 _ rfl⟩
end Go.Proofs.Ythniclbmpeklmaa.KJf
end
section
namespace Go.Proofs.Ythniclbmpeklmaa.KJf
open Go.RowKit Go.Proofs.YthniclbmpeklmaaW.PrintWords Go.Proofs.YthniclbmpeklmaaW.PrintLast Go.Proofs.YthniclbmpeklmaaW.PrintMore
attribute [local go_sem] max2_int min2_int max_two min_two max_three min_three max_four min_four   -- for this text's walks alone
set_option linter.unusedVariables false
set_option linter.unusedSimpArgs false
theorem eqA36 (d : Nat) (w : World) (x0 y0 : Int) (x1 y1 : Int) :
  (Op.equalIn (d + 2) 36 (.agg #[.int .i64 x0, .int .i64 x1]) (.agg #[.int .i64 y0, .int .i64 y1])).run Try.prog w = .ok (x0 == y0 && (x1 == y1)) w := by
 refine eqA_of Try.underlying36 (by kernel_rfl) ?_
 refine eqf_cons (by rfl) (by go_simp; rfl) (by go_simp; rfl) (by go_simp) ?_
 exact eqf_last (by rfl) (by go_simp; rfl) (by go_simp; rfl) (by go_simp)
end Go.Proofs.Ythniclbmpeklmaa.KJf
end
section
namespace Go.Proofs.Ythniclbmpeklmaa.KJf
open Go.RowKit Go.Proofs.YthniclbmpeklmaaW.PrintWords Go.Proofs.YthniclbmpeklmaaW.PrintLast Go.Proofs.YthniclbmpeklmaaW.PrintMore
attribute [local go_sem] max2_int min2_int max_two min_two max_three min_three max_four min_four   -- for this text's walks alone
set_option linter.unusedVariables false
set_option linter.unusedSimpArgs false
attribute [local go_sem high] eqA36
def knelllaw11_Of.f (a0_0 : Int) (a0_1 : Int) (a0_2 : Int) (a0_3 : Int) (a0_4 : Int) (a0_5 : Int) (a0_6 : Int) (a0_7 : Int) (a0_8 : Int) (a0_9 : Int) (a0_10 : Bool) (a0_11 : Int) : Option (Int × Int × Int × Int × Int × Int × Int × Int × Int × Int × Bool × Int) := some (a0_0, a0_1, a0_2, a0_3, a0_4, a0_5, a0_6, a0_7, a0_8, a0_9, a0_10, a0_11)
set_option maxHeartbeats 8000000 in
set_option maxRecDepth 100000 in
theorem knelllaw11_Of.calls (a0_0 : Int) (a0_1 : Int) (a0_2 : Int) (a0_3 : Int) (a0_4 : Int) (a0_5 : Int) (a0_6 : Int) (a0_7 : Int) (a0_8 : Int) (a0_9 : Int) (a0_10 : Bool) (a0_11 : Int) (r1 : Int) (r2 : Int) (r3 : Int) (r4 : Int) (r5 : Int) (r6 : Int) (r7 : Int) (r8 : Int) (r9 : Int) (r10 : Int) (r11 : Bool) (r12 : Int) (w : World) (h : knelllaw11_Of.f a0_0 a0_1 a0_2 a0_3 a0_4 a0_5 a0_6 a0_7 a0_8 a0_9 a0_10 a0_11 = some (r1, r2, r3, r4, r5, r6, r7, r8, r9, r10, r11, r12)) :
  Calls Try.prog 30 #[.agg #[.int .i64 a0_0, .int .i64 a0_1, .int .i64 a0_2, .int .i64 a0_3, .int .i64 a0_4, .int .i64 a0_5, .int .i64 a0_6, .int .i64 a0_7, .int .i64 a0_8, .int .i64 a0_9, .bool a0_10, .int .i64 a0_11]] w fun e w' => e = .returned (.agg #[.int .i64 r1, .int .i64 r2, .int .i64 r3, .int .i64 r4, .int .i64 r5, .int .i64 r6, .int .i64 r7, .int .i64 r8, .int .i64 r9, .int .i64 r10, .bool r11, .int .i64 r12]) ∧ Below w.heap.size w w' := by
 have hu50 := Try.underlying50
 have hu54 := Try.underlying54
 have hu34 := Try.underlying34
 have HB := Aside0.mk (Below.refl w.heap.size w)
 have H : (some (a0_0, a0_1, a0_2, a0_3, a0_4, a0_5, a0_6, a0_7, a0_8, a0_9, a0_10, a0_11)) = some (r1, r2, r3, r4, r5, r6, r7, r8, r9, r10, r11, r12) := h
 clear h
 simp only [Option.some.injEq, Prod.mk.injEq] at H
 obtain ⟨rfl, rfl, rfl, rfl, rfl, rfl, rfl, rfl, rfl, rfl, rfl, rfl⟩ := H
 go_enter Try.func30, Try.ntmps30
 go_wp2_with (first | ((with_reducible refine gate_dst (N := 1) rfl ?_); refine box_event ?hg (N := 1) ?hd (cs := #[.int .i64 a0_0, .int .i64 a0_1, .int .i64 a0_2, .int .i64 a0_3, .int .i64 a0_4, .int .i64 a0_5, .int .i64 a0_6, .int .i64 a0_7, .int .i64 a0_8, .int .i64 a0_9, .bool a0_10, .int .i64 a0_11]) (t := 50) ?hr ?_; (case hd => rfl); (case hg => rfl); (case hr => first | (go_simp; done) | (go_simp; rfl)); intro gb101 hg w2 hbox hb; have n0_ := Aside0.mk (below_step (by repeat (first | (with_reducible first | exact HB.out | apply below_alloc | apply pw_below_drewN | apply below_drew1) | exact HB.out)) hb); have n1_ := Aside0.mk (hbox); have n2_ := Aside0.mk ((by rw [hg]; exact (below_size (by repeat (first | (with_reducible first | exact HB.out | apply below_alloc | apply pw_below_drewN | apply below_drew1) | exact HB.out))) : w.heap.size ≤ gb101)); have n3_ := Aside0.mk ((by rw [hg]; exact (below_size (by repeat (first | (with_reducible first | exact HB.out | apply below_alloc | apply pw_below_drewN | apply below_drew1) | exact HB.out))) : w.heap.size ≤ gb101)); clear HB; have HB := n0_; have BK101 := n1_; have GW101 := n2_; have GE101 := n3_; clear n0_ n1_ n2_ n3_; clear hb hbox hg) | ((with_reducible refine gate_dst (N := 2) rfl ?_); refine box_event ?hg (N := 2) ?hd (cs := #[.int .i64 0, .int .i64 0, .int .i64 0, .int .i64 0, .int .i64 0, .int .i64 0, .int .i64 0, .int .i64 0, .int .i64 0, .int .i64 0, .bool false, .int .i64 0]) (t := 54) ?hr ?_; (case hd => rfl); (case hg => rfl); (case hr => first | (go_simp; done) | (go_simp; rfl)); intro gb102 hg w3 hbox hb; have n0_ := Aside0.mk (blk_below (g := gb101) (o := .cells #[.int .i64 a0_0, .int .i64 a0_1, .int .i64 a0_2, .int .i64 a0_3, .int .i64 a0_4, .int .i64 a0_5, .int .i64 a0_6, .int .i64 a0_7, .int .i64 a0_8, .int .i64 a0_9, .bool a0_10, .int .i64 a0_11] 50 (0, 0)) (by (with_reducible repeat (first | refine blk_drewN ?_ _ | refine blk_drew ?_ | refine blk_alloc ?_ _)); exact BK101.out) hb); have n1_ := Aside0.mk (below_step (by repeat (first | (with_reducible first | exact HB.out | apply below_alloc | apply pw_below_drewN | apply below_drew1 | refine below_set ?_ GE101.out) | exact HB.out)) hb); have n2_ := Aside0.mk (hbox); have n3_ := Aside0.mk ((by rw [hg]; exact (below_size (by repeat (first | (with_reducible first | exact HB.out | apply below_alloc | apply pw_below_drewN | apply below_drew1 | refine below_set ?_ GE101.out) | exact HB.out))) : w.heap.size ≤ gb102)); have n4_ := Aside0.mk ((by rw [hg]; exact (below_size (by repeat (first | (with_reducible first | exact HB.out | apply below_alloc | apply pw_below_drewN | apply below_drew1 | refine below_set ?_ GE101.out) | exact HB.out))) : w.heap.size ≤ gb102)); have n5_ := Aside0.mk ((by rw [hg]; exact Nat.ne_of_lt (blk_lt (g := gb101) (o := .cells #[.int .i64 a0_0, .int .i64 a0_1, .int .i64 a0_2, .int .i64 a0_3, .int .i64 a0_4, .int .i64 a0_5, .int .i64 a0_6, .int .i64 a0_7, .int .i64 a0_8, .int .i64 a0_9, .bool a0_10, .int .i64 a0_11] 50 (0, 0)) (by (with_reducible repeat (first | refine blk_drewN ?_ _ | refine blk_drew ?_ | refine blk_alloc ?_ _)); exact BK101.out)) : gb101 ≠ gb102)); have n6_ := Aside0.mk ((by rw [hg]; exact Nat.ne_of_gt (blk_lt (g := gb101) (o := .cells #[.int .i64 a0_0, .int .i64 a0_1, .int .i64 a0_2, .int .i64 a0_3, .int .i64 a0_4, .int .i64 a0_5, .int .i64 a0_6, .int .i64 a0_7, .int .i64 a0_8, .int .i64 a0_9, .bool a0_10, .int .i64 a0_11] 50 (0, 0)) (by (with_reducible repeat (first | refine blk_drewN ?_ _ | refine blk_drew ?_ | refine blk_alloc ?_ _)); exact BK101.out)) : gb102 ≠ gb101)); clear BK101; clear HB; have BK101 := n0_; have HB := n1_; have BK102 := n2_; have GW102 := n3_; have GE102 := n4_; have NB101_102 := n5_; have NB102_101 := n6_; clear n0_ n1_ n2_ n3_ n4_ n5_ n6_; clear hb hbox hg; have hnb4 := NB101_102.out; have hnc4 := NB102_101.out; have hcz5_0 : w3.cell? ⟨gb101, 0, none⟩ = some (.int .i64 a0_0) := (blk_cell BK101.out 0).trans rfl; have hcz5_1 : w3.cell? ⟨gb101, 1, none⟩ = some (.int .i64 a0_1) := (blk_cell BK101.out 1).trans rfl; have hcz5_2 : w3.cell? ⟨gb101, 2, none⟩ = some (.int .i64 a0_2) := (blk_cell BK101.out 2).trans rfl; have hcz5_3 : w3.cell? ⟨gb101, 3, none⟩ = some (.int .i64 a0_3) := (blk_cell BK101.out 3).trans rfl; have hcz5_4 : w3.cell? ⟨gb101, 4, none⟩ = some (.int .i64 a0_4) := (blk_cell BK101.out 4).trans rfl; have hcz5_5 : w3.cell? ⟨gb101, 5, none⟩ = some (.int .i64 a0_5) := (blk_cell BK101.out 5).trans rfl; have hcz5_6 : w3.cell? ⟨gb101, 6, none⟩ = some (.int .i64 a0_6) := (blk_cell BK101.out 6).trans rfl; have hcz5_7 : w3.cell? ⟨gb101, 7, none⟩ = some (.int .i64 a0_7) := (blk_cell BK101.out 7).trans rfl; have hcz5_8 : w3.cell? ⟨gb101, 8, none⟩ = some (.int .i64 a0_8) := (blk_cell BK101.out 8).trans rfl; have hcz5_9 : w3.cell? ⟨gb101, 9, none⟩ = some (.int .i64 a0_9) := (blk_cell BK101.out 9).trans rfl; have hcz5_10 : w3.cell? ⟨gb101, 10, none⟩ = some (.bool a0_10) := (blk_cell BK101.out 10).trans rfl; have hcz5_11 : w3.cell? ⟨gb101, 11, none⟩ = some (.int .i64 a0_11) := (blk_cell BK101.out 11).trans rfl; have hfz5_0 := blk_frozen BK101.out 0; have hfz5_1 := blk_frozen BK101.out 1; have hfz5_2 := blk_frozen BK101.out 2; have hfz5_3 := blk_frozen BK101.out 3; have hfz5_4 := blk_frozen BK101.out 4; have hfz5_5 := blk_frozen BK101.out 5; have hfz5_6 := blk_frozen BK101.out 6; have hfz5_7 := blk_frozen BK101.out 7; have hfz5_8 := blk_frozen BK101.out 8; have hfz5_9 := blk_frozen BK101.out 9; have hfz5_10 := blk_frozen BK101.out 10; have hfz5_11 := blk_frozen BK101.out 11; have hcz6_0 : w3.cell? ⟨gb102, 0, none⟩ = some (.int .i64 0) := (blk_cell BK102.out 0).trans rfl; have hcz6_1 : w3.cell? ⟨gb102, 1, none⟩ = some (.int .i64 0) := (blk_cell BK102.out 1).trans rfl; have hcz6_2 : w3.cell? ⟨gb102, 2, none⟩ = some (.int .i64 0) := (blk_cell BK102.out 2).trans rfl; have hcz6_3 : w3.cell? ⟨gb102, 3, none⟩ = some (.int .i64 0) := (blk_cell BK102.out 3).trans rfl; have hcz6_4 : w3.cell? ⟨gb102, 4, none⟩ = some (.int .i64 0) := (blk_cell BK102.out 4).trans rfl; have hcz6_5 : w3.cell? ⟨gb102, 5, none⟩ = some (.int .i64 0) := (blk_cell BK102.out 5).trans rfl; have hcz6_6 : w3.cell? ⟨gb102, 6, none⟩ = some (.int .i64 0) := (blk_cell BK102.out 6).trans rfl; have hcz6_7 : w3.cell? ⟨gb102, 7, none⟩ = some (.int .i64 0) := (blk_cell BK102.out 7).trans rfl; have hcz6_8 : w3.cell? ⟨gb102, 8, none⟩ = some (.int .i64 0) := (blk_cell BK102.out 8).trans rfl; have hcz6_9 : w3.cell? ⟨gb102, 9, none⟩ = some (.int .i64 0) := (blk_cell BK102.out 9).trans rfl; have hcz6_10 : w3.cell? ⟨gb102, 10, none⟩ = some (.bool false) := (blk_cell BK102.out 10).trans rfl; have hcz6_11 : w3.cell? ⟨gb102, 11, none⟩ = some (.int .i64 0) := (blk_cell BK102.out 11).trans rfl; have hfz6_0 := blk_frozen BK102.out 0; have hfz6_1 := blk_frozen BK102.out 1; have hfz6_2 := blk_frozen BK102.out 2; have hfz6_3 := blk_frozen BK102.out 3; have hfz6_4 := blk_frozen BK102.out 4; have hfz6_5 := blk_frozen BK102.out 5; have hfz6_6 := blk_frozen BK102.out 6; have hfz6_7 := blk_frozen BK102.out 7; have hfz6_8 := blk_frozen BK102.out 8; have hfz6_9 := blk_frozen BK102.out 9; have hfz6_10 := blk_frozen BK102.out 10; have hfz6_11 := blk_frozen BK102.out 11))
 refine bodyPost_ret (results_cell_row rfl _ _ gb102 54 #[.int .i64 a0_0, .int .i64 a0_1, .int .i64 a0_2, .int .i64 a0_3, .int .i64 a0_4, .int .i64 a0_5, .int .i64 a0_6, .int .i64 a0_7, .int .i64 a0_8, .int .i64 a0_9, .bool a0_10, .int .i64 a0_11] (0, 0) _ rfl (by (with_reducible repeat (first | refine blk_drewN ?_ _ | refine blk_drew ?_ | refine blk_alloc ?_ _)); refine blk_put (cs := #[.int .i64 a0_0, .int .i64 a0_1, .int .i64 a0_2, .int .i64 a0_3, .int .i64 a0_4, .int .i64 a0_5, .int .i64 a0_6, .int .i64 a0_7, .int .i64 a0_8, .int .i64 a0_9, .bool a0_10, .int .i64 0]) ?_ 11 _ rfl; (with_reducible repeat (first | refine blk_drewN ?_ _ | refine blk_drew ?_ | refine blk_alloc ?_ _)); refine blk_put (cs := #[.int .i64 a0_0, .int .i64 a0_1, .int .i64 a0_2, .int .i64 a0_3, .int .i64 a0_4, .int .i64 a0_5, .int .i64 a0_6, .int .i64 a0_7, .int .i64 a0_8, .int .i64 a0_9, .bool false, .int .i64 0]) ?_ 10 _ rfl; (with_reducible repeat (first | refine blk_drewN ?_ _ | refine blk_drew ?_ | refine blk_alloc ?_ _)); refine blk_put (cs := #[.int .i64 a0_0, .int .i64 a0_1, .int .i64 a0_2, .int .i64 a0_3, .int .i64 a0_4, .int .i64 a0_5, .int .i64 a0_6, .int .i64 a0_7, .int .i64 a0_8, .int .i64 0, .bool false, .int .i64 0]) ?_ 9 _ rfl; (with_reducible repeat (first | refine blk_drewN ?_ _ | refine blk_drew ?_ | refine blk_alloc ?_ _)); refine blk_put (cs := #[.int .i64 a0_0, .int .i64 a0_1, .int .i64 a0_2, .int .i64 a0_3, .int .i64 a0_4, .int .i64 a0_5, .int .i64 a0_6, .int .i64 a0_7, .int .i64 0, .int .i64 0, .bool false, .int .i64 0]) ?_ 8 _ rfl; (with_reducible repeat (first | refine blk_drewN ?_ _ | refine blk_drew ?_ | refine blk_alloc ?_ _)); refine blk_put (cs := #[.int .i64 a0_0, .int .i64 a0_1, .int .i64 a0_2, .int .i64 a0_3, .int .i64 a0_4, .int .i64 a0_5, .int .i64 a0_6, .int .i64 0, .int .i64 0, .int .i64 0, .bool false, .int .i64 0]) ?_ 7 _ rfl; (with_reducible repeat (first | refine blk_drewN ?_ _ | refine blk_drew ?_ | refine blk_alloc ?_ _)); refine blk_put (cs := #[.int .i64 a0_0, .int .i64 a0_1, .int .i64 a0_2, .int .i64 a0_3, .int .i64 a0_4, .int .i64 a0_5, .int .i64 0, .int .i64 0, .int .i64 0, .int .i64 0, .bool false, .int .i64 0]) ?_ 6 _ rfl; (with_reducible repeat (first | refine blk_drewN ?_ _ | refine blk_drew ?_ | refine blk_alloc ?_ _)); refine blk_put (cs := #[.int .i64 a0_0, .int .i64 a0_1, .int .i64 a0_2, .int .i64 a0_3, .int .i64 a0_4, .int .i64 0, .int .i64 0, .int .i64 0, .int .i64 0, .int .i64 0, .bool false, .int .i64 0]) ?_ 5 _ rfl; (with_reducible repeat (first | refine blk_drewN ?_ _ | refine blk_drew ?_ | refine blk_alloc ?_ _)); refine blk_put (cs := #[.int .i64 a0_0, .int .i64 a0_1, .int .i64 a0_2, .int .i64 a0_3, .int .i64 0, .int .i64 0, .int .i64 0, .int .i64 0, .int .i64 0, .int .i64 0, .bool false, .int .i64 0]) ?_ 4 _ rfl; (with_reducible repeat (first | refine blk_drewN ?_ _ | refine blk_drew ?_ | refine blk_alloc ?_ _)); refine blk_put (cs := #[.int .i64 a0_0, .int .i64 a0_1, .int .i64 a0_2, .int .i64 0, .int .i64 0, .int .i64 0, .int .i64 0, .int .i64 0, .int .i64 0, .int .i64 0, .bool false, .int .i64 0]) ?_ 3 _ rfl; (with_reducible repeat (first | refine blk_drewN ?_ _ | refine blk_drew ?_ | refine blk_alloc ?_ _)); refine blk_put (cs := #[.int .i64 a0_0, .int .i64 a0_1, .int .i64 0, .int .i64 0, .int .i64 0, .int .i64 0, .int .i64 0, .int .i64 0, .int .i64 0, .int .i64 0, .bool false, .int .i64 0]) ?_ 2 _ rfl; (with_reducible repeat (first | refine blk_drewN ?_ _ | refine blk_drew ?_ | refine blk_alloc ?_ _)); refine blk_put (cs := #[.int .i64 a0_0, .int .i64 0, .int .i64 0, .int .i64 0, .int .i64 0, .int .i64 0, .int .i64 0, .int .i64 0, .int .i64 0, .int .i64 0, .bool false, .int .i64 0]) ?_ 1 _ rfl; (with_reducible repeat (first | refine blk_drewN ?_ _ | refine blk_drew ?_ | refine blk_alloc ?_ _)); refine blk_put (cs := #[.int .i64 0, .int .i64 0, .int .i64 0, .int .i64 0, .int .i64 0, .int .i64 0, .int .i64 0, .int .i64 0, .int .i64 0, .int .i64 0, .bool false, .int .i64 0]) ?_ 0 _ rfl; (with_reducible repeat (first | refine blk_drewN ?_ _ | refine blk_drew ?_ | refine blk_alloc ?_ _)); exact BK102.out) Try.underlying54 rfl (by kernel_rfl)) rfl ?_
 exact ⟨by first | rfl | (simp [errW_none, errW_some] <;> rfl) | (simp [*, errW_none, errW_some] <;> rfl), by repeat (first | (with_reducible first | exact HB.out | apply below_alloc | apply pw_below_drewN | apply below_drew1 | refine below_set ?_ GE101.out | refine below_set ?_ GE102.out) | exact HB.out)⟩
end Go.Proofs.Ythniclbmpeklmaa.KJf
end
section
namespace Go.Proofs.Ythniclbmpeklmaa.Mo
open Go.RowKit Go.Maps Go.Proofs.YthniclbmpeklmaaW.PrintWords Go.Proofs.YthniclbmpeklmaaW.PrintLast Go.Proofs.YthniclbmpeklmaaW.PrintMore Go.Proofs.Ythniclbmpeklmaa.Mp Go.Proofs.Ythniclbmpeklmaa.Ju
open Go.Proofs.Ythniclbmpeklmaa.Au (Ha RowIs flat_get flat_len haV lawH types_ne evA Ev Fr)
set_option linter.unusedVariables false
set_option linter.unusedSimpArgs false
theorem of_ev (e : Ev) (W : World) : Calls Try.prog 30 #[.agg (evA e)] W fun r w' => r = .returned (.agg (evA e)) ∧ Below W.heap.size W w' :=
 KJf.knelllaw11_Of.calls _ _ _ _ _ _ _ _ _ _ _ _ _ _ _ _ _ _ _ _ _ _ _ _ W rfl
structure Nw (w W : World) (b m1 m2 n : Nat) (m : Md) (v : Value) (L : List Tm) : Prop where
 mw : Mw w W b m1 m2 n m
 row : RowIs W w.heap.size 81 3 tmA v L
theorem Nw.step {w W W1 : World} {b m1 m2 n : Nat} {m : Md} {v : Value} {L : List Tm} (h : Nw w W b m1 m2 n m v L) (hb : Below W.heap.size W W1) : Nw w W1 b m1 m2 n m v L := ⟨h.mw.step hb, pw_own_below h.row hb⟩
theorem row_lower {w : World} {B B' T k : Nat} {α : Type} {A : α → Array Value} {v : Value} {L : List α} (h : RowIs w B T k A v L) (hB : B' ≤ B) : RowIs w B' T k A v L := by
 refine ⟨h.1, ?_⟩
 rcases h.2 with q | ⟨g, cap, cur, hv, hb, q⟩
 ·exact .inl q
 ·exact .inr ⟨g, cap, cur, hv, Nat.le_trans hB hb, q⟩
theorem least_step {L : List Tm} {j : Nat} {x : Tm} {d : Int} (h : LeastIs (L.take j) d) (hx : L[j]? = some x) (hn : 0 ≤ x.2) (hd : ∀ y ∈ L, 0 ≤ y.2) : (d < 0 ∨ x.2 < d → LeastIs (L.take (j + 1)) x.2) ∧ (¬ d < 0 → ¬ x.2 < d → LeastIs (L.take (j + 1)) d) := by
 obtain ⟨hj, rfl⟩ := List.getElem?_eq_some_iff.1 hx
 rw [List.take_succ_eq_append_getElem hj]
 rcases h with ⟨h1, rfl⟩ | ⟨⟨y, hy, h1⟩, h2⟩
 ·rw [h1]
  refine ⟨fun _ => .inr ⟨⟨_, by simp, rfl⟩, fun z hz => by simp at hz; rw [hz]; exact Int.le_refl _⟩, fun q => absurd (by decide) q⟩
 ·have hp : 0 ≤ d := by rw [← h1]; exact hd y (List.mem_of_mem_take hy)
  refine ⟨fun q => .inr ⟨⟨L[j], List.mem_append.2 (.inr (by simp)), rfl⟩, fun z hz => ?_⟩, fun q1 q2 => .inr ⟨⟨y, List.mem_append.2 (.inl hy), h1⟩, fun z hz => ?_⟩⟩
  ·rcases List.mem_append.1 hz with hz | hz
   ·have := h2 z hz; omega
   ·rw [List.mem_singleton.1 hz]; exact Int.le_refl _
  ·rcases List.mem_append.1 hz with hz | hz
   ·exact h2 z hz
   ·rw [List.mem_singleton.1 hz]; omega
theorem least_uniq {L : List Tm} {d d' : Int} (h : LeastIs L d) (h' : LeastIs L d') : d = d' := by
 rcases h with ⟨h1, h2⟩ | ⟨⟨x, hx, h1⟩, h2⟩
 ·rcases h' with ⟨_, h3⟩ | ⟨⟨y, hy, _⟩, _⟩
  ·rw [h2, h3]
  ·rw [h1] at hy; cases hy
 ·rcases h' with ⟨h3, _⟩ | ⟨⟨y, hy, h3⟩, h4⟩
  ·rw [h3] at hx; cases hx
  ·have := h2 y hy; have := h4 x hx; omega
theorem armed_uniq {m : Md} {L L' : List Tm} (h : ArmedIs m L) (h' : ArmedIs m L') : L = L' := by
 have key : ∀ (n : Nat) (L L' : List Tm), L.length = n → L.Pairwise ltT → L'.Pairwise ltT → (∀ x, x ∈ L ↔ x ∈ L') → L = L' := by
  intro n
  induction n with
  | zero =>
   intro L L' hl _ _ hm
   obtain rfl := List.length_eq_zero_iff.1 hl
   cases L' with
   | nil => rfl
   | cons y r => exact absurd ((hm y).2 (by simp)) (by simp)
  | succ n ih =>
   intro L L' hl h1 h2 hm
   cases L with
   | nil => cases hl
   | cons x r =>
    cases L' with
    | nil => exact absurd ((hm x).1 (by simp)) (by simp)
    | cons y s =>
     rw [List.pairwise_cons] at h1 h2
     have e : x = y := by
      rcases List.mem_cons.1 ((hm x).1 (by simp)) with q | q
      ·exact q
      ·rcases List.mem_cons.1 ((hm y).2 (by simp)) with q2 | q2
       ·exact q2.symm
       ·have a := h1.1 y q2; have c := h2.1 x q; unfold ltT at a c; omega
     subst e
     rw [ih r s (by simpa using hl) h1.2 h2.2 (fun z => ?_)]
     have hz := hm z
     rw [List.mem_cons, List.mem_cons] at hz
     refine ⟨fun q => ?_, fun q => ?_⟩
     ·rcases hz.1 (.inr q) with e | q2
      ·subst e; have a := h1.1 z q; unfold ltT at a; omega
      ·exact q2
     ·rcases hz.2 (.inr q) with e | q2
      ·subst e; have a := h2.1 z q; unfold ltT at a; omega
      ·exact q2
 refine key _ L L' rfl (List.pairwise_iff_getElem.2 fun i j hi hj hij => h.sorted i j hi hj hij) (List.pairwise_iff_getElem.2 fun i j hi hj hij => h'.sorted i j hi hj hij) fun x => ⟨fun q => ?_, fun q => ?_⟩
 ·exact (h'.mem x.1 x.2 (h.wf x q)).2 ((h.mem x.1 x.2 (h.wf x q)).1 q)
 ·exact (h.mem x.1 x.2 (h'.wf x q)).2 ((h'.mem x.1 x.2 (h'.wf x q)).1 q)
def mnR.T15 : Bool × List (List Nat × List Nat) := (true, [([], []), ([0], [0]), ([1], [1]), ([2], [2]), ([2], [2]), ([4, 2], [2, 4]), ([3, 5, 2], [2, 3, 5]), ([6, 2], [2, 6]), ([7, 2], [2, 7]), ([8, 2], [2, 8]), ([2], [2]), ([10, 2], [2, 10]), ([11, 2], [2, 11]), ([9, 12, 2], [2, 9, 12]), ([2, 13], [2, 13]), ([14, 2], [14]), ([15], [15]), ([15], [15]), ([17, 15], [15, 17]), ([16, 18, 15, 15], [15, 16, 18]), ([19, 15], [15, 19]), ([15, 20], [15, 20])])
def mnR.B15 : List Nat := [0, 1, 3, 7, 7, 23, 63, 127, 255, 511, 7, 1031, 3079, 8191, 16383, 32767, 65535, 65535, 196607, 524287, 1048575, 2097151]
theorem mnR.tab15 : rtab .any (opsOf Try.f13 15) = mnR.T15 := by kernel_rfl
theorem mnR.bits15 : waitsOk mnR.T15.2 mnR.B15 = true := by kernel_rfl
set_option maxHeartbeats 20000000 in
set_option maxRecDepth 100000 in
theorem nodes_long (A1 : Option Addr) (n c1 : Nat) (hn : 60 < n) (w : World) :
  Calls Try.prog 13 #[.slice A1 n c1] w fun r w' => r = .returned (.bool true) ∧ Below w.heap.size w w' := by
 have CS := Aside0.mk (fun W => speaks12 W)
 have hn' : decide ((n : Int) > 60) = true := by simp; omega
 clear hn
 go_enter Try.func13, Try.ntmps13
 go_wp2_with (first | (go_loud (go_at_call 39; (with_reducible refine (CS.out _).mono ?_); rintro r w2 ⟨rfl, hb⟩; have n2 := Aside0.mk (below_step n1.out hb); clear hb n1; have n1 := n2)) | (go_at_call 39; (with_reducible refine (CS.out _).mono ?_); rintro r w1 ⟨rfl, hb⟩; have n1 := Aside0.mk hb; clear hb))
 go_ret
 exact ⟨rfl, n1.out⟩
theorem nodes_lt {m : Md} {L : List Tm} (h : ArmedIs m L) (ho : MOk m) {j : Nat} {x y : Tm} (hx : L[j - 1]? = some x) (hy : L[j]? = some y) (hj : 0 < j) : x.1.1 < y.1.1 := by
 obtain ⟨h1, rfl⟩ := List.getElem?_eq_some_iff.1 hx
 obtain ⟨h2, rfl⟩ := List.getElem?_eq_some_iff.1 hy
 have q := h.sorted (j - 1) j h1 h2 (by omega)
 have hm1 := List.getElem_mem h1
 have hm2 := List.getElem_mem h2
 have f1 := (h.mem _ _ (h.wf _ hm1)).1 (show (L[j - 1].1, L[j - 1].2) ∈ L from hm1)
 have f2 := (h.mem _ _ (h.wf _ hm2)).1 (show (L[j].1, L[j].2) ∈ L from hm2)
 have ne : ¬ L[j - 1].1.1 = L[j].1.1 := fun e => by
  have := ho.node f1 f2 e
  unfold ltT at q
  rw [this] at q
  omega
 unfold ltT at q
 omega
set_option maxHeartbeats 20000000 in
set_option maxRecDepth 100000 in
theorem nodes_main (A1 : Option Addr) (c1 : Nat) (l : List Ev) (hn : l.length ≤ 60) (w : World) (hin : ∀ (i : Nat) e, l[i]? = some e → EvIn w A1 i e) (hwf : ∀ e ∈ l, wfJ e) :
  Calls Try.prog 13 #[.slice A1 l.length c1] w fun r w' => r = .returned (.bool true) ∧ Below w.heap.size w w' := by
 have hu2 := Try.underlying50
 have hu3 := Try.underlying81
 have hu4 := Try.underlying22
 have hu5 := Try.underlying78
 have hu6 := Try.underlying34
 have CS := Aside0.mk (fun W => speaks12 W)
 have CN := Aside0.mk (fun W => model_new W)
 have CO := Aside0.mk (fun e W => of_ev e W)
 have HIN := Aside0.mk hin
 have HWF := Aside0.mk hwf
 have HN := Aside0.mk hn
 have hn' : decide ((l.length : Int) > 60) = false := by simp; omega
 clear hin hwf hn
 go_enter Try.func13, Try.ntmps13
 go_wp2_with (first | (go_at_call 39; (with_reducible refine (CS.out _).mono ?_); rintro r w1 ⟨rfl, hb⟩; have n1 := Aside0.mk hb; clear hb) | (go_at_call 40; (with_reducible refine (CN.out _).mono ?_); rintro r w2 ⟨rfl, hmd, hb⟩; have HM0 := Aside0.mk (show Mw w w2 (w1.heap.size + 1 + 1) w1.heap.size (w1.heap.size + 1) 0 md0 from ⟨MdIs.lower hmd n1.out.size, below_step n1.out hb, MOk0⟩); clear hmd hb n1))
 obtain ⟨b, hb⟩ : ∃ b, w1.heap.size + 1 + 1 = b := ⟨_, rfl⟩
 obtain ⟨m2, hm2⟩ : ∃ b, w1.heap.size + 1 = b := ⟨_, rfl⟩
 obtain ⟨m1, hm1⟩ : ∃ b, w1.heap.size = b := ⟨_, rfl⟩
 rw [hb, hm2, hm1] at HM0
 try rw [hb]
 clear hb hm2 hm1
 go_loopw [23] (fun i wr => ∃ (k : Nat) (m : Md), k ≤ l.length ∧ i = .int .i64 k ∧ Aside0 (Mw w wr b m1 m2 (3 * k) m)) (fun i _ => l.length - (intOf i).toNat)
 case atStart => exact ⟨0, md0, by omega, rfl, HM0⟩
 case round =>
  clear HM0
  obtain ⟨k, m, hk, rfl, HI⟩ := hrel
  rcases Nat.lt_or_ge k l.length with hlt | hge
  ·have p0 : (0 : Int) ≤ (k : Int) := by omega
   have q0 : (k : Int) < (l.length : Int) := by omega
   obtain ⟨e, he⟩ : ∃ e, l[k]? = some e := ⟨_, List.getElem?_eq_getElem hlt⟩
   have HW := Aside0.mk (HWF.out e (Go.Proofs.Ythniclbmpeklmaa.Au.get_mem he))
   obtain ⟨ad, rfl, d0, d1, d2, d3, d4, d5, d6, d7, d8, d9, d10, d11⟩ := (HIN.out k e he).below HI.out.bel
   have hnn : wrap64 ((k : Int) + 1) = ((k + 1 : Nat) : Int) := by have := HN.out; unfold wrap64; omega
   have HKL := Aside0.mk hlt
   have HK60 := Aside0.mk (show 3 * k + 3 ≤ 1000 by have := HN.out; omega)
   clear he hlt
   replace q0 := eq_true q0
   replace p0 := eq_true p0
   have HY := Aside0.mk (And.intro (HI.out.alloc (.cells (evA e) 50)) (blk_new wr (.cells (evA e) 50)))
   have hcy := fun i => blk_cell HY.out.2 i
   have hly := blk_lt HY.out.2
   go_wp2_with (first | (go_at_call 30; go_loud ((with_reducible refine (CO.out e _).mono ?_); rintro r w3 ⟨rfl, hb⟩; have HY2 := Aside0.mk (And.intro (HY.out.1.step hb) (blk_below HY.out.2 hb)); clear hb HY hcy hly; have HY := HY2; clear HY2; have hcy := fun i => blk_cell HY.out.2 i; have hly := blk_lt HY.out.2)) | (go_at_call 43; go_loud ((with_reducible refine (HY.out.1.doing (by have := HN.out; omega) HW.out).mono ?_); rintro r w4 ⟨rfl, hm, hf⟩; have HM := Aside0.mk hm; clear hm hf hcy hly)) | (go_at_call 42; go_loud ((with_reducible refine (armed_any HM.out.md (by have := HN.out; omega)).mono ?_); rintro r w5 ⟨v, L, rfl, hR, hA, hL, hb⟩; obtain ⟨A2, c2, rfl, hc2⟩ := hR.form; have HA := Aside0.mk hA; have HL := Aside0.mk hL; have HQ0 := Aside0.mk (show Nw w w5 b m1 m2 (3 * k + 3) (doF m e).1 _ L from ⟨HM.out.step hb, row_lower hR HM.out.bel.size⟩); clear hR hA hL hb hc2)))
   clear d0 d1 d2 d3 d4 d5 d6 d7 d8 d9 d10 d11
   have HNN := Aside0.mk (show ∀ y ∈ L, 0 ≤ y.2 from fun y hy => HQ0.out.mw.ok.nn y.1 y.2 ((HA.out.mem y.1 y.2 (HA.out.wf y hy)).1 hy))
   go_loopw [35, 7] (fun vj vl wq => ∃ (j : Nat) (d : Int), j ≤ L.length ∧ vj = .int .i64 j ∧ vl = .int .i64 d ∧ Aside0 (LeastIs (L.take j) d ∧ Nw w wq b m1 m2 (3 * k + 3) (doF m e).1 (.slice A2 L.length c2) L)) (fun vj _ _ => L.length - (intOf vj).toNat)
   case atStart => exact ⟨0, -1, by omega, rfl, rfl, ⟨.inl ⟨rfl, rfl⟩, HQ0.out⟩⟩
   case round =>
    clear HQ0
    obtain ⟨j, d, hj, rfl, rfl, HQ⟩ := hrel
    rcases Nat.lt_or_ge j L.length with hjl | hjg
    ·have pj : (0 : Int) ≤ (j : Int) := by omega
     have qj : ((j : Int) < (L.length : Int)) = True := eq_true (by omega)
     have hjj : wrap64 ((j : Int) + 1) = ((j + 1 : Nat) : Int) := by have := HL.out; have := HK60.out; unfold wrap64; omega
     obtain ⟨x, hx⟩ : ∃ x, L[j]? = some x := ⟨_, List.getElem?_eq_getElem hjl⟩
     obtain ⟨gr, cp, hv, hcp, hgl, hcell⟩ := HQ.out.2.row.at_ (fun _ => rfl) hx
     injection hv with hv1 hv2 hv3
     subst hv1
     have d0 := hcell 0 (by decide)
     have d1 := hcell 1 (by decide)
     have d2 := hcell 2 (by decide)
     rw [Nat.add_zero] at d0
     have d0 : wr.cell? ⟨gr, j * 3, none⟩ = some (.int .i64 x.1.1) := d0
     have d1 : wr.cell? ⟨gr, j * 3 + 1, none⟩ = some (.int .i64 x.1.2) := d1
     have d2 : wr.cell? ⟨gr, j * 3 + 2, none⟩ = some (.int .i64 x.2) := d2
     have HJL := Aside0.mk hjl
     have HX := Aside0.mk hx
     have hmem := (List.getElem?_eq_some_iff.1 hx).2 ▸ List.getElem_mem hjl
     have HST := Aside0.mk ((HA.out.mem x.1 x.2 (HA.out.wf x hmem)).1 hmem)
     have HLS := Aside0.mk (least_step HQ.out.1 hx (HNN.out x hmem) HNN.out)
     have HWX := Aside0.mk (HA.out.wf x hmem)
     have CST : Aside0 (∀ W, Nw w W b m1 m2 (3 * k + 3) (doF m e).1 (.slice (some ⟨gr, 0, none⟩) L.length c2) L → Calls Try.prog 33 #[pA b, .agg #[.int .i64 x.1.1, .int .i64 x.1.2]] W fun r w' => r = .returned (.int .i64 1) ∧ Below W.heap.size W w') := ⟨fun W hW => by have q := model_status x.1.1 x.1.2 HWX.out.1 HWX.out.2 hW.mw.md; rw [show (doF m e).1.st (x.1.1, x.1.2) = 1 by unfold Md.st; rw [show ((x.1.1, x.1.2) : Ha) = x.1 from rfl, HST.out]; rfl] at q; exact q⟩
     clear hcell hcp hv2 hv3 hmem hx
     replace pj := eq_true pj
     go_upto_region 15 with (fail)
     have HT0 := Aside0.mk (And.intro (HQ.out.2.step (below_alloc (Below.refl _ _) (.cells (tmA x) 81))) (blk_new wr (.cells (tmA x) 81)))
     have HEB := Aside0.mk (below_alloc (Below.refl wr.heap.size wr) (.cells (tmA x) 81))
     obtain ⟨W3, hW3⟩ : ∃ W, wr.alloc (.cells (tmA x) 81) = W := ⟨_, rfl⟩
     obtain ⟨tb, htb⟩ : ∃ t, wr.heap.size = t := ⟨_, rfl⟩
     have HEB2 : Aside0 (Below wr.heap.size wr W3) := ⟨hW3 ▸ HEB.out⟩
     have HT : Aside0 (Nw w W3 b m1 m2 (3 * k + 3) (doF m e).1 (.slice (some ⟨gr, 0, none⟩) L.length c2) L ∧ W3.heap[tb]? = some (.cells #[.int .i64 x.1.1, .int .i64 x.1.2, .int .i64 x.2] 81 (0, 0))) := ⟨htb ▸ hW3 ▸ HT0.out⟩
     simp only [hW3, htb] at ⊢
     clear HT0 HEB hW3 htb d0 d1 d2
     rcases Nat.eq_zero_or_pos j with hz | hpos
     ·have f5 : decide (0 < j) = false := decide_eq_false (by omega)
      have g5 : ((1 : Int) != 1) = false := by decide
      clear hz hjl hj
      refine start_ (n := 22) (S := (fun w' => (∀ i, w'.cell? ⟨tb, i, none⟩ = (#[.int .i64 x.1.1, .int .i64 x.1.2, .int .i64 x.2] : Array Value)[i]?))) (ds := []) #[ff,ff,ff,ff,ff,ff,ff,ff,ff,ff,ff,ff,ff,ff,ff,ff,ff,ff,ff,ff,ff,ff] (by kernel_rfl) rfl rfl (fun i => blk_cell (blk_below HT.out.2 (below_drew (Below.refl _ _))) i) (fun hHeld => ?_)
      refine with_tabW mnR.tab15 mnR.bits15 (fun HT_ HW_ => ?_)
      have H3 := Aside0.mk (And.intro (HT.out.1.step (below_drew (Below.refl _ _))) (blk_below HT.out.2 (below_drew (Below.refl _ _))))
      generalize W3.drew = w7 at H3 hHeld ⊢
      refine pure_ (i := 0) (N := (some 40)) (v := ?_) (a' := ?_) #[tt,ff,ff,ff,ff,ff,ff,ff,ff,ff,ff,ff,ff,ff,ff,ff,ff,ff,ff,ff,ff,ff] rfl rfl (any_of HT_.out (by kernel_rfl)) (fun _ _ _ h => h) (Or.inl ⟨by rfl, ?_⟩) ?_ ?_
      rotate_left
      ·intro w'
       go_simp
       with_reducible rfl
      rotate_left
      ·simp only [Act.put, sQ0, sQ1, sQ2, i64_w]
       rfl
      refine pure_ (i := 1) (N := (some 41)) (v := ?_) (a' := ?_) #[tt,tt,ff,ff,ff,ff,ff,ff,ff,ff,ff,ff,ff,ff,ff,ff,ff,ff,ff,ff,ff,ff] rfl rfl (any_of HT_.out (by kernel_rfl)) (fun _ _ _ h => h) (Or.inl ⟨by rfl, ?_⟩) ?_ ?_
      rotate_left
      ·intro w'
       go_simp
       with_reducible rfl
      rotate_left
      ·simp only [Act.put, sQ0, sQ1, sQ2, i64_w]
       rfl
      refine pure_ (i := 2) (N := (some 42)) (v := ?_) (a' := ?_) #[tt,tt,tt,ff,ff,ff,ff,ff,ff,ff,ff,ff,ff,ff,ff,ff,ff,ff,ff,ff,ff,ff] rfl rfl (any_of HT_.out (by kernel_rfl)) (fun _ _ _ h => h) (Or.inl ⟨by rfl, ?_⟩) ?_ ?_
      rotate_left
      ·intro w'
       go_simp
       with_reducible rfl
      rotate_left
      ·simp only [Act.put, sQ0, sQ1, sQ2, i64_w]
       rfl
      refine pure_ (i := 3) (N := (some 43)) (v := undef) (a' := ?_) #[tt,tt,tt,tt,ff,ff,ff,ff,ff,ff,ff,ff,ff,ff,ff,ff,ff,ff,ff,ff,ff,ff] rfl rfl (any_of HT_.out (by kernel_rfl)) (fun _ _ _ h => h) (Or.inr ⟨by rfl, rfl⟩) ?_ ?_
      rotate_left
      ·simp only [Act.put, sQ0, sQ1, sQ2, i64_w]
       rfl
      refine pure_ (i := 4) (N := (some 44)) (v := undef) (a' := ?_) #[tt,tt,tt,tt,tt,ff,ff,ff,ff,ff,ff,ff,ff,ff,ff,ff,ff,ff,ff,ff,ff,ff] rfl rfl (any_of HT_.out (by kernel_rfl)) (fun _ _ _ h => h) (Or.inr ⟨by rfl, rfl⟩) ?_ ?_
      rotate_left
      ·simp only [Act.put, sQ0, sQ1, sQ2, i64_w]
       rfl
      refine pure_ (i := 5) (N := (some 45)) (v := undef) (a' := ?_) #[tt,tt,tt,tt,tt,tt,ff,ff,ff,ff,ff,ff,ff,ff,ff,ff,ff,ff,ff,ff,ff,ff] rfl rfl (any_of HT_.out (by kernel_rfl)) (fun _ _ _ h => h) (Or.inr ⟨by rfl, rfl⟩) ?_ ?_
      rotate_left
      ·simp only [Act.put, sQ0, sQ1, sQ2, i64_w]
       rfl
      refine pure_ (i := 6) (N := (some 46)) (v := undef) (a' := ?_) #[tt,tt,tt,tt,tt,tt,tt,ff,ff,ff,ff,ff,ff,ff,ff,ff,ff,ff,ff,ff,ff,ff] rfl rfl (any_of HT_.out (by kernel_rfl)) (fun _ _ _ h => h) (Or.inr ⟨by rfl, rfl⟩) ?_ ?_
      rotate_left
      ·simp only [Act.put, sQ0, sQ1, sQ2, i64_w]
       rfl
      refine pure_ (i := 7) (N := (some 47)) (v := undef) (a' := ?_) #[tt,tt,tt,tt,tt,tt,tt,tt,ff,ff,ff,ff,ff,ff,ff,ff,ff,ff,ff,ff,ff,ff] rfl rfl (any_of HT_.out (by kernel_rfl)) (fun _ _ _ h => h) (Or.inr ⟨by rfl, rfl⟩) ?_ ?_
      rotate_left
      ·simp only [Act.put, sQ0, sQ1, sQ2, i64_w]
       rfl
      refine pure_ (i := 8) (N := (some 48)) (v := undef) (a' := ?_) #[tt,tt,tt,tt,tt,tt,tt,tt,tt,ff,ff,ff,ff,ff,ff,ff,ff,ff,ff,ff,ff,ff] rfl rfl (any_of HT_.out (by kernel_rfl)) (fun _ _ _ h => h) (Or.inr ⟨by rfl, rfl⟩) ?_ ?_
      rotate_left
      ·simp only [Act.put, sQ0, sQ1, sQ2, i64_w]
       rfl
      refine pure_ (i := 9) (N := (some 49)) (v := undef) (a' := ?_) #[tt,tt,tt,tt,tt,tt,tt,tt,tt,tt,ff,ff,ff,ff,ff,ff,ff,ff,ff,ff,ff,ff] rfl rfl (any_of HT_.out (by kernel_rfl)) (fun _ _ _ h => h) (Or.inr ⟨by rfl, rfl⟩) ?_ ?_
      rotate_left
      ·simp only [Act.put, sQ0, sQ1, sQ2, i64_w]
       rfl
      refine pure_ (i := 10) (N := (some 50)) (v := undef) (a' := ?_) #[tt,tt,tt,tt,tt,tt,tt,tt,tt,tt,tt,ff,ff,ff,ff,ff,ff,ff,ff,ff,ff,ff] rfl rfl (any_of HT_.out (by kernel_rfl)) (fun _ _ _ h => h) (Or.inr ⟨by rfl, rfl⟩) ?_ ?_
      rotate_left
      ·simp only [Act.put, sQ0, sQ1, sQ2, i64_w]
       rfl
      refine pure_ (i := 11) (N := (some 51)) (v := undef) (a' := ?_) #[tt,tt,tt,tt,tt,tt,tt,tt,tt,tt,tt,tt,ff,ff,ff,ff,ff,ff,ff,ff,ff,ff] rfl rfl (any_of HT_.out (by kernel_rfl)) (fun _ _ _ h => h) (Or.inr ⟨by rfl, rfl⟩) ?_ ?_
      rotate_left
      ·simp only [Act.put, sQ0, sQ1, sQ2, i64_w]
       rfl
      refine pure_ (i := 12) (N := (some 52)) (v := undef) (a' := ?_) #[tt,tt,tt,tt,tt,tt,tt,tt,tt,tt,tt,tt,tt,ff,ff,ff,ff,ff,ff,ff,ff,ff] rfl rfl (any_of HT_.out (by kernel_rfl)) (fun _ _ _ h => h) (Or.inr ⟨by rfl, rfl⟩) ?_ ?_
      rotate_left
      ·simp only [Act.put, sQ0, sQ1, sQ2, i64_w]
       rfl
      refine pure_ (i := 13) (N := (some 53)) (v := undef) (a' := ?_) #[tt,tt,tt,tt,tt,tt,tt,tt,tt,tt,tt,tt,tt,tt,ff,ff,ff,ff,ff,ff,ff,ff] rfl rfl (any_of HT_.out (by kernel_rfl)) (fun _ _ _ h => h) (Or.inr ⟨by rfl, rfl⟩) ?_ ?_
      rotate_left
      ·simp only [Act.put, sQ0, sQ1, sQ2, i64_w]
       rfl
      refine pure_ (i := 14) (N := (some 54)) (v := ?_) (a' := ?_) #[tt,tt,tt,tt,tt,tt,tt,tt,tt,tt,tt,tt,tt,tt,tt,ff,ff,ff,ff,ff,ff,ff] rfl rfl (any_of HT_.out (by kernel_rfl)) (fun _ _ _ h => h) (Or.inl ⟨by rfl, ?_⟩) ?_ ?_
      rotate_left
      ·intro w'
       go_simp
       with_reducible rfl
      rotate_left
      ·simp only [Act.put, sQ0, sQ1, sQ2, i64_w]
       rfl
      refine pure_ (i := 15) (N := (some 55)) (v := ?_) (a' := ?_) #[tt,tt,tt,tt,tt,tt,tt,tt,tt,tt,tt,tt,tt,tt,tt,tt,ff,ff,ff,ff,ff,ff] rfl rfl (any_of HT_.out (by kernel_rfl)) (fun _ _ _ h => h) (Or.inl ⟨by rfl, ?_⟩) ?_ ?_
      rotate_left
      ·intro w'
       go_simp
       with_reducible rfl
      rotate_left
      ·simp only [Act.put, sQ0, sQ1, sQ2, i64_w]
       rfl
      refine pure_ (i := 16) (N := (some 56)) (v := ?_) (a' := ?_) #[tt,tt,tt,tt,tt,tt,tt,tt,tt,tt,tt,tt,tt,tt,tt,tt,tt,ff,ff,ff,ff,ff] rfl rfl (any_of HT_.out (by kernel_rfl)) (fun _ _ _ h => h) (Or.inl ⟨by rfl, ?_⟩) ?_ ?_
      rotate_left
      ·intro w'
       go_simp
       with_reducible rfl
      rotate_left
      ·simp only [Act.put, sQ0, sQ1, sQ2, i64_w]
       rfl
      refine pure_ (i := 17) (N := (some 57)) (v := ?_) (a' := ?_) #[tt,tt,tt,tt,tt,tt,tt,tt,tt,tt,tt,tt,tt,tt,tt,tt,tt,tt,ff,ff,ff,ff] rfl rfl (any_of HT_.out (by kernel_rfl)) (fun _ _ _ h => h) (Or.inl ⟨by rfl, ?_⟩) ?_ ?_
      rotate_left
      ·intro w'
       go_simp
       with_reducible rfl
      rotate_left
      ·simp only [Act.put, sQ0, sQ1, sQ2, i64_w]
       rfl
      refine take_ (i := 18) (N := (some 58)) (v := ?_) (a' := ?_) #[tt,tt,tt,tt,tt,tt,tt,tt,tt,tt,tt,tt,tt,tt,tt,tt,tt,tt,tt,ff,ff,ff] rfl rfl (take_ofW HT_.out HW_.out (by kernel_rfl)) (fun _ _ _ h => h) (Or.inl ⟨by rfl, ?_⟩) hHeld ?_ ?_
      rotate_left
      ·rintro w' s0
       go_simp
       with_reducible rfl
      rotate_left
      ·simp only [Act.put, sQ0, sQ1, sQ2, i64_w]
       rfl
      refine one_ (i := 19) (N := (some 59)) #[tt,tt,tt,tt,tt,tt,tt,tt,tt,tt,tt,tt,tt,tt,tt,tt,tt,tt,tt,tt,ff,ff] rfl rfl (one_of HT_.out (by kernel_rfl)) (by decide) (fun K hK => ?_)
      refine call_ (f := 33) #[pA b, .agg #[.int .i64 x.1.1, .int .i64 x.1.2]] (by rfl) rfl (by go_simp <;> rfl) ?_
      refine (CST.out w7 H3.out.1).mono ?_
      rintro rr w8 ⟨rfl, hb⟩
      refine ⟨_, rfl, ?_⟩
      have H4 := Aside0.mk (And.intro (H3.out.1.step hb) (blk_below H3.out.2 hb))
      clear hb
      refine hK.out _ _ (fun i => blk_cell H4.out.2 i) (fun hHeld => ?_)
      clear hK K
      refine norm_ (a' := ?_) ?_ ?_
      rotate_left
      ·show Act.put _ (some 59) _ = _
       simp only [Act.put, sQ0, sQ1, sQ2, i64_w]
       rfl
      refine pure_ (i := 20) (N := (some 60)) (v := ?_) (a' := ?_) #[tt,tt,tt,tt,tt,tt,tt,tt,tt,tt,tt,tt,tt,tt,tt,tt,tt,tt,tt,tt,tt,ff] rfl rfl (any_of HT_.out (by kernel_rfl)) (fun _ _ _ h => h) (Or.inl ⟨by rfl, ?_⟩) ?_ ?_
      rotate_left
      ·intro w'
       go_simp
       with_reducible rfl
      rotate_left
      ·simp only [Act.put, sQ0, sQ1, sQ2, i64_w]
       rfl
      refine pure_ (i := 21) (N := (some 61)) (v := ?_) (a' := ?_) #[tt,tt,tt,tt,tt,tt,tt,tt,tt,tt,tt,tt,tt,tt,tt,tt,tt,tt,tt,tt,tt,tt] rfl rfl (any_of HT_.out (by kernel_rfl)) (fun _ _ _ h => h) (Or.inl ⟨by rfl, ?_⟩) ?_ ?_
      rotate_left
      ·intro w'
       go_simp
       with_reducible rfl
      rotate_left
      ·simp only [Act.put, sQ0, sQ1, sQ2, i64_w]
       rfl
      refine done_ (done_of HT_.out (by kernel_rfl)) ?_
      clear hHeld
      have hct := fun i => blk_cell H4.out.2 i
      have hlt2 := blk_lt H4.out.2
      by_cases hd0 : d < 0
      ·have f0 : decide (d < 0) = true := decide_eq_true hd0
       have HD := Aside0.mk (HLS.out.1 (.inl hd0))
       clear hd0
       go_wp2
       go_roundw
       case rel => exact ⟨j + 1, x.2, by have := HJL.out; omega, by first | rw [hjj] | simp, rfl, ⟨HD.out, H4.out.1⟩⟩
       case measure => have := HJL.out; first | (rw [hjj]; simp [intOf]; omega) | (simp [intOf]; omega)
      ·have f0 : decide (d < 0) = false := decide_eq_false hd0
       by_cases hd1 : x.2 < d
       ·have f1 : decide (x.2 < d) = true := decide_eq_true hd1
        have HD := Aside0.mk (HLS.out.1 (.inr hd1))
        clear hd0 hd1
        go_wp2
        go_roundw
        case rel => exact ⟨j + 1, x.2, by have := HJL.out; omega, by first | rw [hjj] | simp, rfl, ⟨HD.out, H4.out.1⟩⟩
        case measure => have := HJL.out; first | (rw [hjj]; simp [intOf]; omega) | (simp [intOf]; omega)
       ·have f1 : decide (x.2 < d) = false := decide_eq_false hd1
        have HD := Aside0.mk (HLS.out.2 hd0 hd1)
        clear hd0 hd1
        go_wp2
        go_roundw
        case rel => exact ⟨j + 1, d, by have := HJL.out; omega, by first | rw [hjj] | simp, rfl, ⟨HD.out, H4.out.1⟩⟩
        case measure => have := HJL.out; first | (rw [hjj]; simp [intOf]; omega) | (simp [intOf]; omega)
     ·have f5 : decide (0 < j) = true := decide_eq_true (by omega)
      have g5 : ((1 : Int) != 1) = false := by decide
      have hm1 : wrap64 ((j : Int) - 1) = ((j - 1 : Nat) : Int) := by have := HL.out; have := HK60.out; unfold wrap64; omega
      obtain ⟨xp, hxp⟩ : ∃ x, L[j - 1]? = some x := ⟨_, List.getElem?_eq_getElem (by omega)⟩
      obtain ⟨g9, cp, hv, hcp, hgl9, hcell⟩ := HQ.out.2.row.at_ (fun _ => rfl) hxp
      obtain rfl : gr = g9 := by injection hv with q; injection q with q; injection q
      have HE : Aside0 (W3.cell? ⟨gr, (j - 1) * 3, none⟩ = some (.int .i64 xp.1.1)) := ⟨pw_cell_below HEB2.out ((hcell 0 (by decide)).trans rfl)⟩
      have hlx : xp.1.1 < x.1.1 := nodes_lt HA.out HQ.out.2.mw.ok hxp HX.out (by omega)
      have f6 : decide (xp.1.1 ≥ x.1.1) = false := decide_eq_false (by omega)
      have p1 : ((0 : Int) ≤ ((j - 1 : Nat) : Int)) = True := eq_true (by omega)
      have p2 : (((j - 1 : Nat) : Int) < (L.length : Int)) = True := eq_true (by omega)
      clear hcell hcp hv hlx hpos hjl hj hxp
      refine start_ (n := 22) (S := (fun w' => (∀ i, w'.cell? ⟨tb, i, none⟩ = (#[.int .i64 x.1.1, .int .i64 x.1.2, .int .i64 x.2] : Array Value)[i]?) ∧ (w'.cell? ⟨gr, (j - 1) * 3, none⟩ = some (.int .i64 xp.1.1)))) (ds := []) #[ff,ff,ff,ff,ff,ff,ff,ff,ff,ff,ff,ff,ff,ff,ff,ff,ff,ff,ff,ff,ff,ff] (by kernel_rfl) rfl rfl ⟨fun i => blk_cell (blk_below HT.out.2 (below_drew (Below.refl _ _))) i, pw_cell_below (below_drew (Below.refl W3.heap.size W3)) HE.out⟩ (fun hHeld => ?_)
      refine with_tabW mnR.tab15 mnR.bits15 (fun HT_ HW_ => ?_)
      have H3 := Aside0.mk (And.intro (HT.out.1.step (below_drew (Below.refl _ _))) (blk_below HT.out.2 (below_drew (Below.refl _ _))))
      have HE3 := Aside0.mk (pw_cell_below (below_drew (Below.refl W3.heap.size W3)) HE.out)
      generalize W3.drew = w7 at H3 HE3 hHeld ⊢
      refine pure_ (i := 0) (N := (some 40)) (v := ?_) (a' := ?_) #[tt,ff,ff,ff,ff,ff,ff,ff,ff,ff,ff,ff,ff,ff,ff,ff,ff,ff,ff,ff,ff,ff] rfl rfl (any_of HT_.out (by kernel_rfl)) (fun _ _ _ h => h) (Or.inl ⟨by rfl, ?_⟩) ?_ ?_
      rotate_left
      ·intro w'
       go_simp
       with_reducible rfl
      rotate_left
      ·simp only [Act.put, sQ0, sQ1, sQ2, i64_w]
       rfl
      refine pure_ (i := 1) (N := (some 41)) (v := ?_) (a' := ?_) #[tt,tt,ff,ff,ff,ff,ff,ff,ff,ff,ff,ff,ff,ff,ff,ff,ff,ff,ff,ff,ff,ff] rfl rfl (any_of HT_.out (by kernel_rfl)) (fun _ _ _ h => h) (Or.inl ⟨by rfl, ?_⟩) ?_ ?_
      rotate_left
      ·intro w'
       go_simp
       with_reducible rfl
      rotate_left
      ·simp only [Act.put, sQ0, sQ1, sQ2, i64_w]
       rfl
      refine pure_ (i := 2) (N := (some 42)) (v := ?_) (a' := ?_) #[tt,tt,tt,ff,ff,ff,ff,ff,ff,ff,ff,ff,ff,ff,ff,ff,ff,ff,ff,ff,ff,ff] rfl rfl (any_of HT_.out (by kernel_rfl)) (fun _ _ _ h => h) (Or.inl ⟨by rfl, ?_⟩) ?_ ?_
      rotate_left
      ·intro w'
       go_simp
       with_reducible rfl
      rotate_left
      ·simp only [Act.put, sQ0, sQ1, sQ2, i64_w]
       rfl
      refine pure_ (i := 3) (N := (some 43)) (v := ?_) (a' := ?_) #[tt,tt,tt,tt,ff,ff,ff,ff,ff,ff,ff,ff,ff,ff,ff,ff,ff,ff,ff,ff,ff,ff] rfl rfl (any_of HT_.out (by kernel_rfl)) (fun _ _ _ h => h) (Or.inl ⟨by rfl, ?_⟩) ?_ ?_
      rotate_left
      ·intro w'
       go_simp
       with_reducible rfl
      rotate_left
      ·simp only [Act.put, sQ0, sQ1, sQ2, i64_w]
       rfl
      refine pure_ (i := 4) (N := (some 44)) (v := ?_) (a' := ?_) #[tt,tt,tt,tt,tt,ff,ff,ff,ff,ff,ff,ff,ff,ff,ff,ff,ff,ff,ff,ff,ff,ff] rfl rfl (any_of HT_.out (by kernel_rfl)) (fun _ _ _ h => h) (Or.inl ⟨by rfl, ?_⟩) ?_ ?_
      rotate_left
      ·intro w'
       go_simp
       with_reducible rfl
      rotate_left
      ·simp only [Act.put, sQ0, sQ1, sQ2, i64_w]
       rfl
      refine pure_ (i := 5) (N := (some 45)) (v := ?_) (a' := ?_) #[tt,tt,tt,tt,tt,tt,ff,ff,ff,ff,ff,ff,ff,ff,ff,ff,ff,ff,ff,ff,ff,ff] rfl rfl (any_of HT_.out (by kernel_rfl)) (fun _ _ _ h => h) (Or.inl ⟨by rfl, ?_⟩) ?_ ?_
      rotate_left
      ·intro w'
       go_simp
       with_reducible rfl
      rotate_left
      ·simp only [Act.put, sQ0, sQ1, sQ2, i64_w]
       rfl
      refine pure_ (i := 6) (N := (some 46)) (v := ?_) (a' := ?_) #[tt,tt,tt,tt,tt,tt,tt,ff,ff,ff,ff,ff,ff,ff,ff,ff,ff,ff,ff,ff,ff,ff] rfl rfl (any_of HT_.out (by kernel_rfl)) (fun _ _ _ h => h) (Or.inl ⟨by rfl, ?_⟩) ?_ ?_
      rotate_left
      ·intro w'
       go_simp
       with_reducible rfl
      rotate_left
      ·simp only [Act.put, sQ0, sQ1, sQ2, i64_w]
       rfl
      refine pure_ (i := 7) (N := (some 47)) (v := ?_) (a' := ?_) #[tt,tt,tt,tt,tt,tt,tt,tt,ff,ff,ff,ff,ff,ff,ff,ff,ff,ff,ff,ff,ff,ff] rfl rfl (any_of HT_.out (by kernel_rfl)) (fun _ _ _ h => h) (Or.inl ⟨by rfl, ?_⟩) ?_ ?_
      rotate_left
      ·intro w'
       go_simp
       with_reducible rfl
      rotate_left
      ·simp only [Act.put, sQ0, sQ1, sQ2, i64_w]
       rfl
      refine pure_ (i := 8) (N := (some 48)) (v := ?_) (a' := ?_) #[tt,tt,tt,tt,tt,tt,tt,tt,tt,ff,ff,ff,ff,ff,ff,ff,ff,ff,ff,ff,ff,ff] rfl rfl (any_of HT_.out (by kernel_rfl)) (fun _ _ _ h => h) (Or.inl ⟨by rfl, ?_⟩) ?_ ?_
      rotate_left
      ·intro w'
       go_simp
       with_reducible rfl
      rotate_left
      ·simp only [Act.put, sQ0, sQ1, sQ2, i64_w]
       rfl
      refine pure_ (i := 10) (N := (some 50)) (v := ?_) (a' := ?_) #[tt,tt,tt,tt,tt,tt,tt,tt,tt,ff,tt,ff,ff,ff,ff,ff,ff,ff,ff,ff,ff,ff] rfl rfl (any_of HT_.out (by kernel_rfl)) (fun _ _ _ h => h) (Or.inl ⟨by rfl, ?_⟩) ?_ ?_
      rotate_left
      ·intro w'
       go_simp
       with_reducible rfl
      rotate_left
      ·simp only [Act.put, sQ0, sQ1, sQ2, i64_w]
       rfl
      refine pure_ (i := 11) (N := (some 51)) (v := ?_) (a' := ?_) #[tt,tt,tt,tt,tt,tt,tt,tt,tt,ff,tt,tt,ff,ff,ff,ff,ff,ff,ff,ff,ff,ff] rfl rfl (any_of HT_.out (by kernel_rfl)) (fun _ _ _ h => h) (Or.inl ⟨by rfl, ?_⟩) ?_ ?_
      rotate_left
      ·intro w'
       go_simp
       with_reducible rfl
      rotate_left
      ·simp only [Act.put, sQ0, sQ1, sQ2, i64_w]
       rfl
      refine take_ (i := 9) (N := (some 49)) (v := ?_) (a' := ?_) #[tt,tt,tt,tt,tt,tt,tt,tt,tt,tt,tt,tt,ff,ff,ff,ff,ff,ff,ff,ff,ff,ff] rfl rfl (take_ofW HT_.out HW_.out (by kernel_rfl)) (fun _ _ _ h => h) (Or.inl ⟨by rfl, ?_⟩) hHeld ?_ ?_
      rotate_left
      ·rintro w' ⟨s0, s1⟩
       go_simp
       with_reducible rfl
      rotate_left
      ·simp only [Act.put, sQ0, sQ1, sQ2, i64_w]
       rfl
      refine take_ (i := 12) (N := (some 52)) (v := ?_) (a' := ?_) #[tt,tt,tt,tt,tt,tt,tt,tt,tt,tt,tt,tt,tt,ff,ff,ff,ff,ff,ff,ff,ff,ff] rfl rfl (take_ofW HT_.out HW_.out (by kernel_rfl)) (fun _ _ _ h => h) (Or.inl ⟨by rfl, ?_⟩) hHeld ?_ ?_
      rotate_left
      ·rintro w' ⟨s0, s1⟩
       go_simp
       with_reducible rfl
      rotate_left
      ·simp only [Act.put, sQ0, sQ1, sQ2, i64_w]
       rfl
      refine pure_ (i := 13) (N := (some 53)) (v := ?_) (a' := ?_) #[tt,tt,tt,tt,tt,tt,tt,tt,tt,tt,tt,tt,tt,tt,ff,ff,ff,ff,ff,ff,ff,ff] rfl rfl (any_of HT_.out (by kernel_rfl)) (fun _ _ _ h => h) (Or.inl ⟨by rfl, ?_⟩) ?_ ?_
      rotate_left
      ·intro w'
       go_simp
       with_reducible rfl
      rotate_left
      ·simp only [Act.put, sQ0, sQ1, sQ2, i64_w]
       rfl
      refine pure_ (i := 14) (N := (some 54)) (v := ?_) (a' := ?_) #[tt,tt,tt,tt,tt,tt,tt,tt,tt,tt,tt,tt,tt,tt,tt,ff,ff,ff,ff,ff,ff,ff] rfl rfl (any_of HT_.out (by kernel_rfl)) (fun _ _ _ h => h) (Or.inl ⟨by rfl, ?_⟩) ?_ ?_
      rotate_left
      ·intro w'
       go_simp
       with_reducible rfl
      rotate_left
      ·simp only [Act.put, sQ0, sQ1, sQ2, i64_w]
       rfl
      refine pure_ (i := 15) (N := (some 55)) (v := ?_) (a' := ?_) #[tt,tt,tt,tt,tt,tt,tt,tt,tt,tt,tt,tt,tt,tt,tt,tt,ff,ff,ff,ff,ff,ff] rfl rfl (any_of HT_.out (by kernel_rfl)) (fun _ _ _ h => h) (Or.inl ⟨by rfl, ?_⟩) ?_ ?_
      rotate_left
      ·intro w'
       go_simp
       with_reducible rfl
      rotate_left
      ·simp only [Act.put, sQ0, sQ1, sQ2, i64_w]
       rfl
      refine pure_ (i := 16) (N := (some 56)) (v := ?_) (a' := ?_) #[tt,tt,tt,tt,tt,tt,tt,tt,tt,tt,tt,tt,tt,tt,tt,tt,tt,ff,ff,ff,ff,ff] rfl rfl (any_of HT_.out (by kernel_rfl)) (fun _ _ _ h => h) (Or.inl ⟨by rfl, ?_⟩) ?_ ?_
      rotate_left
      ·intro w'
       go_simp
       with_reducible rfl
      rotate_left
      ·simp only [Act.put, sQ0, sQ1, sQ2, i64_w]
       rfl
      refine pure_ (i := 17) (N := (some 57)) (v := ?_) (a' := ?_) #[tt,tt,tt,tt,tt,tt,tt,tt,tt,tt,tt,tt,tt,tt,tt,tt,tt,tt,ff,ff,ff,ff] rfl rfl (any_of HT_.out (by kernel_rfl)) (fun _ _ _ h => h) (Or.inl ⟨by rfl, ?_⟩) ?_ ?_
      rotate_left
      ·intro w'
       go_simp
       with_reducible rfl
      rotate_left
      ·simp only [Act.put, sQ0, sQ1, sQ2, i64_w]
       rfl
      refine take_ (i := 18) (N := (some 58)) (v := ?_) (a' := ?_) #[tt,tt,tt,tt,tt,tt,tt,tt,tt,tt,tt,tt,tt,tt,tt,tt,tt,tt,tt,ff,ff,ff] rfl rfl (take_ofW HT_.out HW_.out (by kernel_rfl)) (fun _ _ _ h => h) (Or.inl ⟨by rfl, ?_⟩) hHeld ?_ ?_
      rotate_left
      ·rintro w' ⟨s0, s1⟩
       go_simp
       with_reducible rfl
      rotate_left
      ·simp only [Act.put, sQ0, sQ1, sQ2, i64_w]
       rfl
      refine one_ (i := 19) (N := (some 59)) #[tt,tt,tt,tt,tt,tt,tt,tt,tt,tt,tt,tt,tt,tt,tt,tt,tt,tt,tt,tt,ff,ff] rfl rfl (one_of HT_.out (by kernel_rfl)) (by decide) (fun K hK => ?_)
      refine call_ (f := 33) #[pA b, .agg #[.int .i64 x.1.1, .int .i64 x.1.2]] (by rfl) rfl (by go_simp <;> rfl) ?_
      refine (CST.out w7 H3.out.1).mono ?_
      rintro rr w8 ⟨rfl, hb⟩
      refine ⟨_, rfl, ?_⟩
      have H4 := Aside0.mk (And.intro (H3.out.1.step hb) (blk_below H3.out.2 hb))
      have HE4 := Aside0.mk (pw_cell_below hb HE3.out)
      clear hb
      refine hK.out _ _ ⟨fun i => blk_cell H4.out.2 i, HE4.out⟩ (fun hHeld => ?_)
      clear hK K
      refine norm_ (a' := ?_) ?_ ?_
      rotate_left
      ·show Act.put _ (some 59) _ = _
       simp only [Act.put, sQ0, sQ1, sQ2, i64_w]
       rfl
      refine pure_ (i := 20) (N := (some 60)) (v := ?_) (a' := ?_) #[tt,tt,tt,tt,tt,tt,tt,tt,tt,tt,tt,tt,tt,tt,tt,tt,tt,tt,tt,tt,tt,ff] rfl rfl (any_of HT_.out (by kernel_rfl)) (fun _ _ _ h => h) (Or.inl ⟨by rfl, ?_⟩) ?_ ?_
      rotate_left
      ·intro w'
       go_simp
       with_reducible rfl
      rotate_left
      ·simp only [Act.put, sQ0, sQ1, sQ2, i64_w]
       rfl
      refine pure_ (i := 21) (N := (some 61)) (v := ?_) (a' := ?_) #[tt,tt,tt,tt,tt,tt,tt,tt,tt,tt,tt,tt,tt,tt,tt,tt,tt,tt,tt,tt,tt,tt] rfl rfl (any_of HT_.out (by kernel_rfl)) (fun _ _ _ h => h) (Or.inl ⟨by rfl, ?_⟩) ?_ ?_
      rotate_left
      ·intro w'
       go_simp
       with_reducible rfl
      rotate_left
      ·simp only [Act.put, sQ0, sQ1, sQ2, i64_w]
       rfl
      refine done_ (done_of HT_.out (by kernel_rfl)) ?_
      clear hHeld
      have hct := fun i => blk_cell H4.out.2 i
      have hlt2 := blk_lt H4.out.2
      by_cases hd0 : d < 0
      ·have f0 : decide (d < 0) = true := decide_eq_true hd0
       have HD := Aside0.mk (HLS.out.1 (.inl hd0))
       clear hd0
       go_wp2
       go_roundw
       case rel => exact ⟨j + 1, x.2, by have := HJL.out; omega, by first | rw [hjj] | simp, rfl, ⟨HD.out, H4.out.1⟩⟩
       case measure => have := HJL.out; first | (rw [hjj]; simp [intOf]; omega) | (simp [intOf]; omega)
      ·have f0 : decide (d < 0) = false := decide_eq_false hd0
       by_cases hd1 : x.2 < d
       ·have f1 : decide (x.2 < d) = true := decide_eq_true hd1
        have HD := Aside0.mk (HLS.out.1 (.inr hd1))
        clear hd0 hd1
        go_wp2
        go_roundw
        case rel => exact ⟨j + 1, x.2, by have := HJL.out; omega, by first | rw [hjj] | simp, rfl, ⟨HD.out, H4.out.1⟩⟩
        case measure => have := HJL.out; first | (rw [hjj]; simp [intOf]; omega) | (simp [intOf]; omega)
       ·have f1 : decide (x.2 < d) = false := decide_eq_false hd1
        have HD := Aside0.mk (HLS.out.2 hd0 hd1)
        clear hd0 hd1
        go_wp2
        go_roundw
        case rel => exact ⟨j + 1, d, by have := HJL.out; omega, by first | rw [hjj] | simp, rfl, ⟨HD.out, H4.out.1⟩⟩
        case measure => have := HJL.out; first | (rw [hjj]; simp [intOf]; omega) | (simp [intOf]; omega)
    ·have qj : ((j : Int) < (L.length : Int)) = False := eq_false (by omega)
     have HTK := Aside0.mk (show L.take j = L from List.take_of_length_le hjg)
     have g7 : (d != d) = false := by simp
     clear hj hjg
     go_wp2_with (first | (go_at_call 44; go_loud ((with_reducible refine (least_any HQ.out.2.mw.md (by have := HK60.out; omega)).mono ?_); rintro r w9 ⟨d9, L9, rfl, hA9, hl9, hb⟩; have HF := Aside0.mk (HQ.out.2.mw.step hb); obtain rfl : d9 = d := least_uniq hl9 (by rw [armed_uniq hA9 HA.out]; have := HQ.out.1; rwa [HTK.out] at this); clear hA9 hl9 hb)))
     go_roundw
     case rel => exact ⟨k + 1, (doF m e).1, by have := HKL.out; omega, by first | rw [hnn] | simp, ⟨by rw [show 3 * (k + 1) = 3 * k + 3 by omega]; exact HF.out⟩⟩
     case measure => have := HKL.out; first | (rw [hnn]; simp [intOf]; omega) | (simp [intOf]; omega)
  ·have q0 : ((k : Int) < (l.length : Int)) = False := eq_false (by omega)
   clear hk hge
   go_wp2
   go_ret
   exact ⟨rfl, HI.out.bel⟩
end Go.Proofs.Ythniclbmpeklmaa.Mo
end
section
namespace Go.Proofs.Ythniclbmpeklmaa.KJf
open Go.RowKit Go.Proofs.YthniclbmpeklmaaW.PrintWords Go.Proofs.Ythniclbmpeklmaa.Ju
set_option linter.unusedVariables false
def toEv (x : S50) : Au.Ev := ⟨x.f0, x.f1, x.f2, x.f3.f0, x.f3.f1, x.f4.f0, x.f4.f1, x.f5, x.f6, x.f7, x.f8, x.f9⟩
theorem evs_in {A1 : Option Addr} {l1 : List S50} {w : World} (hr1 : Kd.C k50 w A1 l1.length l1) (i : Nat) (e : Au.Ev) (he : (l1.map toEv)[i]? = some e) : EvIn w A1 i e := by
 rw [List.getElem?_map] at he
 obtain ⟨z, hz, rfl⟩ := Option.map_eq_some_iff.1 he
 have hi : i < l1.length := (List.getElem?_eq_some_iff.1 hz).1
 have hrd : rd_T50 l1 (i : Int) = z := by
  show l1.getD i z50 = z
  rw [List.getD_eq_getElem?_getD, hz]; rfl
 have hat := at_T50 hr1 (i : Int) (by omega) (by omega)
 rw [hrd] at hat
 exact hat
theorem evs_wf {l1 : List S50} (hw : ∀ x ∈ l1, wfB' (toEv x) = true) (e : Au.Ev) (he : e ∈ l1.map toEv) : wfJ e := by
 obtain ⟨z, hz, rfl⟩ := List.mem_map.1 he
 exact wfJ_of (hw z hz)
def knelllaw12_ModelNodes.f (l1 : List S50) : Option Bool := if ∀ x ∈ l1, wfB' (toEv x) = true then some true else none
theorem knelllaw12_ModelNodes.calls (A1 : Option Addr) (q1 : Nat) (l1 : List S50) (r : Bool) (w : World) (hr1 : Kd.C k50 w A1 l1.length l1) (hc1 : l1.length ≤ q1)
  (h : knelllaw12_ModelNodes.f l1 = some r) :
  Calls Try.prog 13 #[.slice A1 l1.length q1] w fun e w' => e = .returned (.bool r) ∧ Below w.heap.size w w' := by
 unfold knelllaw12_ModelNodes.f at h
 split at h
 ·rename_i hw
  obtain rfl := Option.some.inj h
  rcases Nat.lt_or_ge 60 l1.length with hn | hn
  ·exact Mo.nodes_long A1 _ q1 hn w
  ·have q := Mo.nodes_main A1 q1 (l1.map toEv) (by rw [List.length_map]; exact hn) w (evs_in hr1) (evs_wf hw)
   rw [List.length_map] at q
   exact q
 ·cases h
theorem ModelNodes (l1 : List S50) (hw : ∀ x ∈ l1, wfB' (toEv x) = true) : knelllaw12_ModelNodes.f l1 = some true := if_pos hw
end Go.Proofs.Ythniclbmpeklmaa.KJf
end
section
namespace Go.Proofs.Ythniclbmpeklmaa.Krow
open Go.ChangeShapes Go.WideShapes Go.Deep Go.Proofs.YthniclbmpeklmaaW.PrintWords
inductive Leaf where
 | int (k : IntKind)
 | bool
def Leaf.ok : Leaf → Value → Prop
 | .int k, v => ∃ n, v = .int k n ∧ (Lit.int k n).wf = true
 | .bool, v => ∃ b, v = .bool b
def Leaves : List Leaf → List Value → Prop
 | [], [] => True
 | l :: ls, v :: vs => l.ok v ∧ Leaves ls vs
 | _, _ => False
theorem Leaves.length : ∀ {ls : List Leaf} {vs : List Value}, Leaves ls vs → vs.length = ls.length
 | [], [], _ => rfl
 | _ :: _, _ :: _, h => by simp [Leaves.length h.2]
theorem Leaves.append : ∀ {a b : List Leaf} {vs ws : List Value}, Leaves a vs → Leaves b ws → Leaves (a ++ b) (vs ++ ws)
 | [], _, [], _, _, h => h
 | _ :: _, _, _ :: _, _, h, h' => ⟨h.1, Leaves.append h.2 h'⟩
theorem Leaves.int {k : IntKind} {ls : List Leaf} {vs : List Value} (h : Leaves (.int k :: ls) vs) : ∃ n r, vs = .int k n :: r ∧ (Lit.int k n).wf = true ∧ Leaves ls r := by
 match vs, h with
 | _ :: r, ⟨⟨n, rfl, hw⟩, h⟩ => exact ⟨n, r, rfl, hw, h⟩
theorem Leaves.boole {ls : List Leaf} {vs : List Value} (h : Leaves (.bool :: ls) vs) : ∃ b r, vs = .bool b :: r ∧ Leaves ls r := by
 match vs, h with
 | _ :: r, ⟨⟨b, rfl⟩, h⟩ => exact ⟨b, r, rfl, h⟩
theorem Leaves.nil {vs : List Value} (h : Leaves [] vs) : vs = [] := by
 match vs, h with
 | [], _ => rfl
theorem collect {α : Type} {p : Nat → α → Prop} {len : Nat} (key : ∀ i, i < len → ∃ x : α, p i x) : ∃ l : List α, l.length = len ∧ ∀ i x, l[i]? = some x → p i x := by
 induction len with
 | zero => exact ⟨[], rfl, fun i x h => by simp at h⟩
 | succ len ih =>
  obtain ⟨l, hl, hx⟩ := ih (fun i hi => key i (by omega))
  obtain ⟨x, hp⟩ := key len (by omega)
  refine ⟨l ++ [x], by simp [hl], fun i y hy => ?_⟩
  by_cases hi : i < len
  ·rw [List.getElem?_append_left (by omega)] at hy
   exact hx i y hy
  ·rw [List.getElem?_append_right (by omega)] at hy
   have : i - l.length = 0 := by
    have := (List.getElem?_eq_some_iff.1 hy).1
    simp at this
    omega
   rw [this] at hy
   obtain rfl : x = y := by simpa using hy
   obtain rfl : i = len := by omega
   exact hp
def fieldsOf (f : TypeId → Option (List Leaf)) (P : Program) : List Field → Nat → Option (List Leaf)
 | [], _ => some []
 | x :: r, off => (f x.type).bind fun ls => if x.offset = off ∧ P.cellsOf x.type = ls.length then (fieldsOf f P r (off + ls.length)).map (ls ++ ·) else none
def plainOf (P : Program) : Nat → TypeId → Option (List Leaf)
 | 0, _ => none
 | n + 1, t => match P.underlying t with
  | some (.int k) => some [.int k]
  | some .bool => some [.bool]
  | some (.struct fs) => (fieldsOf (plainOf P n) P fs.toList 0).bind fun ls => if P.cellsOf t = ls.length then some ls else none
  | some (.array m e) => (plainOf P n e).bind fun ls => if P.cellsOf e = ls.length ∧ P.cellsOf t = m * ls.length then some ((List.replicate m ls).flatten) else none
  | _ => none
section
variable {H : Type} {enc : TypeId × Value → H} {P : Program} {w : World} {base : Nat} {spare : Nat → Bool} {held : Bool}
theorem fields_leaves {n : Nat} (ih : ∀ (t : TypeId) (ls : List Leaf) (fuel : Nat) (cs : List Value) (x : DataW H × List MemPlace), plainOf P n t = some ls → DataW.trod enc P w base spare held fuel t cs = some x → Leaves ls cs) (cs : List Value) (m : Nat) :
  ∀ (fs : List Field) (off : Nat) (ls : List Leaf), (∀ (i : Nat) (f : Field), fs[i]? = some f → ∃ x, DataW.trod enc P w base spare held m f.type ((cs.drop f.offset).take (P.cellsOf f.type)) = some x) →
   fieldsOf (plainOf P n) P fs off = some ls → Leaves ls ((cs.drop off).take ls.length) := by
 intro fs
 induction fs with
 | nil =>
  intro off ls _ h
  simp only [fieldsOf, Option.some.injEq] at h
  subst h
  simp [Leaves]
 | cons f r ihr =>
  intro off ls hx h
  simp only [fieldsOf] at h
  obtain ⟨l1, h1, h⟩ := Option.bind_eq_some_iff.1 h
  by_cases hc : f.offset = off ∧ P.cellsOf f.type = l1.length
  ·rw [if_pos hc] at h
   obtain ⟨l2, h2, rfl⟩ := Option.map_eq_some_iff.1 h
   obtain ⟨x, hx0⟩ := hx 0 f rfl
   rw [hc.1, hc.2] at hx0
   have a1 := ih f.type l1 m _ x h1 hx0
   have a2 := ihr (off + l1.length) l2 (fun i g hg => hx (i + 1) g hg) h2
   have e : (cs.drop off).take (l1 ++ l2).length = (cs.drop off).take l1.length ++ (cs.drop (off + l1.length)).take l2.length := by
    rw [List.length_append, List.take_add, List.drop_drop]
   rw [e]
   exact a1.append a2
  ·rw [if_neg hc] at h
   cases h
theorem blocks_leaves (ls : List Leaf) (cs : List Value) : ∀ (m off : Nat), (∀ i, i < m → Leaves ls ((cs.drop ((off + i) * ls.length)).take ls.length)) → Leaves ((List.replicate m ls).flatten) ((cs.drop (off * ls.length)).take (m * ls.length)) := by
 intro m
 induction m with
 | zero => intro off _; simp [Leaves]
 | succ m ih =>
  intro off h
  have a1 := h 0 (by omega)
  have a2 := ih (off + 1) (fun i hi => by have := h (i + 1) (by omega); rw [show off + 1 + i = off + (i + 1) by omega]; exact this)
  rw [Nat.add_zero] at a1
  rw [List.replicate_succ, List.flatten_cons, show (m + 1) * ls.length = ls.length + m * ls.length by rw [Nat.add_mul]; omega, List.take_add, List.drop_drop, show off * ls.length + ls.length = (off + 1) * ls.length by rw [Nat.add_mul]; omega]
  exact a1.append a2
theorem plain_trod : ∀ (n : Nat) (t : TypeId) (ls : List Leaf) (fuel : Nat) (cs : List Value) (x : DataW H × List MemPlace), plainOf P n t = some ls → DataW.trod enc P w base spare held fuel t cs = some x → Leaves ls cs := by
 intro n
 induction n with
 | zero => intro t ls fuel cs x h; cases h
 | succ n ih =>
  intro t ls fuel cs x h hx
  unfold plainOf at h
  split at h
  ·rename_i k hu
   obtain rfl := Option.some.inj h
   obtain ⟨a, rfl, _, hw⟩ := DataW.trod_int hu hx
   exact ⟨⟨a, rfl, hw⟩, trivial⟩
  ·rename_i hu
   obtain rfl := Option.some.inj h
   obtain ⟨b, rfl, _⟩ := DataW.trod_bool hu hx
   exact ⟨⟨b, rfl⟩, trivial⟩
  ·rename_i fs hu
   obtain ⟨l, h1, h⟩ := Option.bind_eq_some_iff.1 h
   by_cases hc : P.cellsOf t = l.length
   ·rw [if_pos hc] at h
    obtain rfl := Option.some.inj h
    obtain ⟨xs, m, _, _, hl, hlen, hf⟩ := DataW.trod_struct hu hx
    have := fields_leaves ih cs m fs.toList 0 l (fun i f hi => by
     have hi' : fs[i]? = some f := by simpa using hi
     rw [hf i f hi']
     have : i < xs.length := by rw [hlen]; exact (Array.getElem?_eq_some_iff.1 hi').1
     exact ⟨_, List.getElem?_eq_getElem this⟩) h1
    rw [List.drop_zero, List.take_of_length_le (by omega)] at this
    exact this
   ·rw [if_neg hc] at h
    cases h
  ·rename_i m e hu
   obtain ⟨l, h1, h⟩ := Option.bind_eq_some_iff.1 h
   by_cases hc : P.cellsOf e = l.length ∧ P.cellsOf t = m * l.length
   ·rw [if_pos hc] at h
    obtain rfl := Option.some.inj h
    obtain ⟨xs, q, _, _, hl, hlen, hf⟩ := DataW.trod_array hu hx
    have := blocks_leaves l cs m 0 (fun i hi => by
     have h2 := hf i hi
     rw [List.getElem?_eq_getElem (by omega), hc.1] at h2
     rw [Nat.zero_add]
     exact ih e l q _ _ h1 h2)
    rw [Nat.zero_mul, List.drop_zero, List.take_of_length_le (by omega)] at this
    exact this
   ·rw [if_neg hc] at h
    cases h
  ·cases h
theorem open_plain {r : Reach} {b0 : Nat} {t : TypeId} {v : Value} {d : DataW H} {ps : List MemPlace} {n : Nat} {ls : List Leaf} (hp : plainOf P n t = some ls) (ha : (match P.underlying t with | some (.struct _) | some (.array _ _) => true | _ => false) = true)
  (hv : Value.okWide P w r b0 t v) (h : DataW.Trod enc P w base spare held t v d ps) : ∃ cs : List Value, v = .agg cs.toArray ∧ Leaves ls cs := by
 obtain ⟨fuel, hf⟩ := h
 unfold Value.okWide at hv
 have key : ∃ cs, v = .agg cs := by
  split at hv
  ·obtain ⟨cs, h1, _⟩ := hv; exact ⟨cs, h1⟩
  ·obtain ⟨cs, h1, _⟩ := hv; exact ⟨cs, h1⟩
  ·rename_i h1 h2
   split at ha
   ·rename_i fs he; exact absurd he (h1 fs)
   ·rename_i a e he; exact absurd he (h2 a e)
   ·cases ha
 obtain ⟨cs, rfl⟩ := key
 have h2 := plain_trod n t ls fuel _ _ hp hf
 exact ⟨cs.toList, by simp, by simpa [Value.cells] using h2⟩
theorem open_rows {α : Type} (D : Kd α) (good : α → Prop) {r : Reach} {b0 : Nat} {t e : TypeId} {v : Value} {d : DataW H} {ps : List MemPlace} {n : Nat} {ls : List Leaf} (hu : P.underlying t = some (.slice e)) (hp : plainOf P n e = some ls) (hc : P.cellsOf e = ls.length) (hsz : D.sz = ls.length)
  (mk : ∀ cs : List Value, Leaves ls cs → ∃ x : α, D.K w x cs ∧ good x)
  (hv : Value.okWide P w r b0 t v) (h : DataW.Trod enc P w base spare held t v d ps) :
  ∃ (A : Option Addr) (c : Nat) (l : List α), v = .slice A l.length c ∧ l.length ≤ c ∧ l.length ≤ 9223372036854775807 ∧ Kd.C D w A l.length l ∧ ∀ x ∈ l, good x := by
 obtain ⟨A, len, cap, rfl⟩ := okWide_slice hu hv
 obtain ⟨fuel, hf⟩ := h
 rcases open_slice hu hf with ⟨hcs, _⟩ | ⟨a, len', cap', m, q, Ds, Pl, hcs, _, hl, hm, hmm, _, hi⟩
 ·simp [Value.cells] at hcs
  obtain ⟨rfl, rfl, rfl⟩ := hcs
  exact ⟨none, 0, [], rfl, Nat.le_refl _, by simp, ⟨rfl, by simp, fun h => absurd h (by simp)⟩, by simp⟩
 ·simp [Value.cells] at hcs
  obtain ⟨rfl, rfl, rfl⟩ := hcs
  have hlm : len ≤ m := by
   rw [hmm]
   split
   ·exact hl
   ·exact Nat.le_refl _
  have key : ∀ i, i < len → ∃ (x : α) (cs : List Value), D.K w x cs ∧ good x ∧ cs.length = ls.length ∧ ∀ j u, cs[j]? = some u → w.cell? (a.add (i * ls.length + j)) = some u := by
   intro i hil
   obtain ⟨cs', h1, h2⟩ := hi i (by omega)
   rw [hc] at h1
   obtain ⟨_, hlen, hcell⟩ := World.cells?_some h1
   obtain ⟨x, hx, hg⟩ := mk cs' (plain_trod n e ls q cs' _ hp h2)
   refine ⟨x, cs', hx, hg, hlen, fun j u hu => ?_⟩
   have hj : j < ls.length := by rw [← hlen]; exact (List.getElem?_eq_some_iff.1 hu).1
   rw [← Go.Deep.add_add, hcell j hj, hu]
  have ch := collect key
  obtain ⟨l, rfl, hx⟩ := ch
  have hm' : cap ≤ 9223372036854775807 := hm
  refine ⟨some a, cap, l, rfl, hl, by omega, ⟨rfl, by omega, fun _ => ⟨a, rfl, fun j p hj => ?_⟩⟩, fun x hxl => ?_⟩
  ·obtain ⟨cs, h1, _, h3, h4⟩ := hx j p hj
   refine ⟨cs, by rw [h3, hsz], h1, ?_⟩
   rw [hsz]
   exact h4
  ·obtain ⟨i, hi⟩ := List.mem_iff_getElem?.1 hxl
   obtain ⟨_, _, h2, _⟩ := hx i x hi
   exact h2
end
end Go.Proofs.Ythniclbmpeklmaa.Krow
end
