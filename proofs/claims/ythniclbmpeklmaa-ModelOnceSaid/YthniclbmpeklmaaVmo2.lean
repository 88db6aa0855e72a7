/- What is proved: a part of the way to the statement ModelOnceSaid: Mp, Mq, Me, AuP, AuQ, AuS, AuA, EvA, EvB, EvC, EvD, JuP, JuM, JuA, EvE, EvG, EvF, EvH, EvI, EvJ, JuB, JuC, ShT, MoA, MoB, MoC, MoD, MoE, JuI, JuD, JuE, JuF, JuG, JuS; no conditions. Put together by a program of this session (claimv.py). -/
import Derived.Maps.OwnSet
import Derived.DeepKeys4
import Derived.Maps.OwnOps
import Derived.WideKeyEntry
import Derived.Test.YthniclbmpeklmaaProg
import Derived.WalkKit
import Derived.KernelRfl
import Derived.Maps.AppendAt
import Derived.Deep.AppendLies
import Derived.Deep.LoopGhost
import Derived.Deep.QuietTactic
import Derived.BigQuiet
import Derived.Laws.CopyOwn
import Derived.Laws.Rows
import Derived.StillTailTactics
import Derived.Handy
import Derived.Laws.Bits
import Derived.Deep.RegionWith
import Derived.Deep.RegionHeld3
import Derived.Shelf.SlGeneric
import Derived.Shelf.SlSortCmp.WholeK
import Derived.Shelf.SlSortCmp.NoneTotal
import Derived.Ground.SlsfProg
import Derived.LoopN
import Derived.Maps.RangeWalk
import Derived.Sort.OwnSorted
import Derived.Test.YthniclbmpeklmaaVmo1
section
namespace Go.Proofs.Ythniclbmpeklmaa
abbrev tt : Bool := true
abbrev ff : Bool := false
theorem sQ0 {α : Type} {l : List α} {i : Nat} {a : α} : l.toArray.setIfInBounds i a = (l.set i a).toArray := by rw [List.setIfInBounds_toArray]
theorem sQ1 {α : Type} {a b : α} {l : List α} : (a :: l).set 0 b = b :: l := rfl
theorem sQ2 {α : Type} {a b : α} {l : List α} {n : Nat} : (a :: l).set (n + 1) b = a :: l.set n b := rfl
end Go.Proofs.Ythniclbmpeklmaa
namespace Go.Proofs.Ythniclbmpeklmaa.Mp
open Go.RowKit Go.Maps
set_option linter.unusedSectionVars false
def tokR (v : Value) : Option (DataW Value × List MemPlace) := some (.held v, [])
def MapIs {κ : Type} (c : κ → Value) (P : Program) (k : TypeId) (w : World) (b s : Nat) (f : κ → Option Value) : Prop :=
 ∃ D : DataW Value, w.ownsMap P k tokR b s D ∧ Maps.size D = s ∧ ∀ x l, keyOf P k (c x) = some l → (f x = none ∧ has D l = false) ∨ ∃ v, f x = some v ∧ has D l = true ∧ ∀ z, D.atKey l z = .held v
section
variable {κ : Type} [DecidableEq κ] {c : κ → Value} {P : Program} {k t e : TypeId} {w : World} {b s : Nat} {f : κ → Option Value}
theorem owns_exact {H : Type} {R : Value → Option (DataW H × List MemPlace)} {n : Nat} {D : DataW H} (h : w.ownsMap P k R b n D) : w.ownsMap P k R b (Maps.size D) D := by
 obtain ⟨es, clock, hb, F, _, rfl⟩ := h
 exact ⟨es, clock, hb, F, by simp [Maps.size, length_sorted], rfl⟩
omit [DecidableEq κ] in
theorem MapIs.made (w : World) (P : Program) (k : TypeId) : MapIs c P k (w.alloc (.map #[] 0)) w.heap.size 0 (fun _ => none) :=
 ⟨.map [], World.ownsMap_made w P k tokR, rfl, fun _ _ _ => .inl ⟨rfl, rfl⟩⟩
theorem MapIs.lt (h : MapIs c P k w b s f) : b < w.heap.size := by obtain ⟨D, h, _⟩ := h; exact h.lt
theorem MapIs.move {w' : World} (h : MapIs c P k w b s f) (hb : w'.heap[b]? = w.heap[b]?) : MapIs c P k w' b s f := by
 obtain ⟨D, ⟨es, clock, h1, h2⟩, h3⟩ := h
 exact ⟨D, ⟨es, clock, hb.trans h1, h2⟩, h3⟩
theorem tok_inv {v : Value} {z : DataW Value × List MemPlace} (h : tokR v = some z) : z = (.held v, []) := (Option.some.inj h).symm
theorem MapIs.look_ok (h : MapIs c P k w b s f) (K : Keyed P k) (ht : P.underlying t = some (.map k e)) {z : Value} (hz : (zeroValue e).run P w = .ok z w) {x : κ} {kl : Lit} (hkey : keyOf P k (c x) = some kl) :
  (Instr.lookup t (.map (some b)) (c x) true).run P w = .ok (.tuple #[(f x).getD z, .bool (f x).isSome]) w := by
 obtain ⟨D, ho, _, hf⟩ := h
 obtain ⟨v, ps, hrun, hv⟩ := ho.look_ok K ht hz (zd := .held z) (zp := []) rfl hkey
 rw [hrun]
 have hv' := congrArg Prod.fst (Option.some.inj hv)
 rcases hf x kl hkey with ⟨h1, h2⟩ | ⟨y, h1, h2, h3⟩
 ·rw [h1, h2]
  rw [atKey_of_not_has h2] at hv'
  injection hv' with hv'
  rw [hv']; rfl
 ·rw [h1, h2]
  rw [h3] at hv'
  injection hv' with hv'
  rw [hv']; rfl
theorem MapIs.look (h : MapIs c P k w b s f) (K : Keyed P k) (ht : P.underlying t = some (.map k e)) {z : Value} (hz : (zeroValue e).run P w = .ok z w) {x : κ} {kl : Lit} (hkey : keyOf P k (c x) = some kl) :
  (Instr.lookup t (.map (some b)) (c x) false).run P w = .ok ((f x).getD z) w := by
 obtain ⟨D, ho, _, hf⟩ := h
 obtain ⟨v, ps, hrun, hv⟩ := ho.lookup K ht hz (zd := .held z) (zp := []) rfl hkey
 rw [hrun]
 have hv' := congrArg Prod.fst (Option.some.inj hv)
 rcases hf x kl hkey with ⟨h1, h2⟩ | ⟨y, h1, h2, h3⟩
 ·rw [h1]
  rw [atKey_of_not_has h2] at hv'
  injection hv' with hv'
  rw [hv']; rfl
 ·rw [h1]
  rw [h3] at hv'
  injection hv' with hv'
  rw [hv']; rfl
theorem MapIs.store (hc : ∀ x y, c x = c y → x = y) (h : MapIs c P k w b s f) (K : Keyed P k) (ht : P.underlying t = some (.map k e)) (hn : s < maxLen) {x : κ} {kl : Lit} (hkey : keyOf P k (c x) = some kl) (val : Value) :
  ∃ w', (Instr.mapUpdate t (.map (some b)) (c x) val).run P w = .ok () w' ∧ MapIs c P k w' b (if (f x).isSome then s else s + 1) (fun l => if l = x then some val else f l) ∧ w.mapTurned w' b := by
 obtain ⟨D, ho, hs, hf⟩ := h
 have hT := ho.tidy K
 obtain ⟨w', hrun, ho', hm⟩ := ho.store K ht hn hkey (show tokR val = some (.held val, []) from rfl)
 have hkl := K.key hkey
 have hsz : Maps.size (D.put kl (.held val)) = (if (f x).isSome then s else s + 1) := by
  rw [size_put hT, hs]
  rcases hf x kl hkey with ⟨h1, h2⟩ | ⟨y, h1, h2, h3⟩
  ·rw [h1, h2]; rfl
  ·rw [h1, h2]; rfl
 refine ⟨w', hrun, ⟨D.put kl (.held val), hsz ▸ owns_exact ho', hsz, fun l m hm' => ?_⟩, hm⟩
 by_cases hl : l = x
 ·subst hl
  obtain rfl : kl = m := Option.some.inj (hkey.symm.trans hm')
  exact .inr ⟨val, if_pos rfl, has_put_same hT.isMap hkl _, fun z => atKey_put_same hT.isMap hkl _ _⟩
 ·have hne : m ≠ kl := fun e => hl (hc _ _ (K.inj hm' (e ▸ hkey)))
  rcases hf l m hm' with ⟨h1, h2⟩ | ⟨y, h1, h2, h3⟩
  ·exact .inl ⟨(if_neg hl).trans h1, by rw [has_put_other hne]; exact h2⟩
  ·exact .inr ⟨y, (if_neg hl).trans h1, by rw [has_put_other hne]; exact h2, fun z => by rw [atKey_put_other hne]; exact h3 z⟩
end
end Go.Proofs.Ythniclbmpeklmaa.Mp
end
section
namespace Go.Proofs.Ythniclbmpeklmaa.Mp
open Go.RowKit Go.Maps
set_option linter.unusedSectionVars false
section
variable {κ : Type} [DecidableEq κ] {c : κ → Value} {P : Program} {k t e : TypeId} {w : World} {b s : Nat} {f : κ → Option Value}
variable {ops : Array Oper} {rest : List Oper} {o : Oper} {a : Act} {Q : Exit → Act → World → Prop}
theorem wpl_store (hc : ∀ x y, c x = c y → x = y) (hg : o.guard = none) (m x v : Operand) (t : TypeId) (hop : o.op = Op.mapUpdate t m x v) (h : MapIs c P k w b s f) (K : Keyed P k) (ht : P.underlying t = some (.map k e)) (hn : s < maxLen) {y : κ} {kl : Lit} (hkey : keyOf P k (c y) = some kl) {val : Value}
  (hm : a.eval m = .map (some b)) (hx : a.eval x = c y) (hv : a.eval v = val) (hK : ∀ w', MapIs c P k w' b (if (f y).isSome then s else s + 1) (fun l => if l = y then some val else f l) → w.grownBy w' (some b) → wpList P ops Q rest (a.put o.dst undef) w') : wpList P ops Q (o :: rest) a w := by
 refine wpList_plain hg fun K' hK' => ?_
 obtain ⟨w', hrun, h1, h2⟩ := h.store hc K ht hn hkey val
 unfold Oper.wp
 simp [execOp, hop, hm, hx, hv, hrun, Result.andThen]
 exact hK' _ _ (hK w' h1 h2.grown)
end
end Go.Proofs.Ythniclbmpeklmaa.Mp
end
section
namespace Go.Proofs.Ythniclbmpeklmaa.Mp
open Go.RowKit Go.Maps
open Go.WideMaps (KeyLaw)
open Go.ChangeMaps Go.WideElems Go.MapKept
section
variable {κ : Type} [DecidableEq κ] {c : κ → Value} {P : Program} {k t e : TypeId} {w : World} {b s : Nat} {f : κ → Option Value}
theorem MapIs.block {κ : Type} {c : κ → Value} {P : Program} {k : TypeId} {w : World} {b s : Nat} {f : κ → Option Value} (h : MapIs c P k w b s f) : ∃ es clock, w.heap[b]? = some (.map es clock) := by
 obtain ⟨D, ⟨es, cl, hb, _⟩, _⟩ := h
 exact ⟨es, cl, hb⟩
end
end Go.Proofs.Ythniclbmpeklmaa.Mp
end
section
namespace Go.Proofs.Ythniclbmpeklmaa.Au
set_option linter.unusedVariables false
structure Ev where
 k : Int
 wk : Int
 op : Int
 hn : Int
 hg : Int
 nn : Int
 ng : Int
 t : Int
 a : Int
 u : Int
 y : Bool
 er : Int
abbrev Ha := Int × Int
abbrev Ev.h (e : Ev) : Ha := (e.hn, e.hg)
abbrev Ev.new (e : Ev) : Ha := (e.nn, e.ng)
structure Life where
 hn : Int
 hg : Int
 made : Int
 wk : Int
 til : Int
 dl : Int
structure Cl where
 e : Ev
 beg : Int
 clk : Int
 en : Int
structure Story where
 l : List Ev
 lives : List Life
 at_ : Ha → Option Nat
 calls : List Cl
 opn : Int → Option Nat
def mk1 (e : Ev) : Bool := e.k == 3 && e.er == 0 && (e.op == 1 || e.op == 3)
def ends (e : Ev) : Bool := (e.k == 4 || e.k == 3) && (e.k == 4 || (e.op == 2 && e.y) || (e.op == 3 && e.er == 0))
end Go.Proofs.Ythniclbmpeklmaa.Au
end
section
namespace Go.Proofs.Ythniclbmpeklmaa.Au
set_option linter.unusedVariables false
theorem get_mem {α : Type} {l : List α} {x : α} {j : Nat} (h : l[j]? = some x) : x ∈ l := by
 obtain ⟨hj, rfl⟩ := List.getElem?_eq_some_iff.1 h
 exact List.getElem_mem hj
end Go.Proofs.Ythniclbmpeklmaa.Au
end
section
namespace Go.Proofs.Ythniclbmpeklmaa.Au
open Go.RowKit Go.Maps Go.Proofs.YthniclbmpeklmaaW.PrintWords Go.Proofs.YthniclbmpeklmaaW.PrintLast Go.Proofs.YthniclbmpeklmaaW.PrintMore Go.Proofs.Ythniclbmpeklmaa.Mp
set_option linter.unusedVariables false
set_option linter.unusedSimpArgs false
variable {α : Type}
abbrev evA (e : Ev) : Array Value := #[.int .i64 e.k, .int .i64 e.wk, .int .i64 e.op, .int .i64 e.hn, .int .i64 e.hg, .int .i64 e.nn, .int .i64 e.ng, .int .i64 e.t, .int .i64 e.a, .int .i64 e.u, .bool e.y, .int .i64 e.er]
abbrev haV (h : Ha) : Value := .agg #[.int .i64 h.1, .int .i64 h.2]
def RowIs (w : World) (B T k : Nat) (A : α → Array Value) (v : Value) (l : List α) : Prop := w.ownsRow B T k v l.length (l.flatMap fun x => (A x).toList)
theorem flat_get {A : α → Array Value} {k : Nat} (hA : ∀ x, (A x).size = k) : ∀ (l : List α) (i j : Nat) (x : α), l[i]? = some x → j < k → (l.flatMap fun x => (A x).toList)[i * k + j]? = (A x)[j]?
 | [], i, j, x, h, hj => by simp at h
 | y :: l, 0, j, x, h, hj => by
  obtain rfl : y = x := by simpa using h
  rw [List.flatMap_cons, List.getElem?_append_left (by simp [hA]; omega)]
  simp
 | y :: l, i + 1, j, x, h, hj => by
  rw [List.flatMap_cons, List.getElem?_append_right (by simp only [Array.length_toList, hA]; rw [Nat.succ_mul]; omega)]
  rw [Array.length_toList, hA, show (i + 1) * k + j - k = i * k + j by rw [Nat.succ_mul]; omega]
  exact flat_get hA l i j x (by simpa using h) hj
theorem flat_len {A : α → Array Value} {k : Nat} (hA : ∀ x, (A x).size = k) (l : List α) : (l.flatMap fun x => (A x).toList).length = l.length * k := by
 induction l with
 | nil => simp
 | cons y l ih => rw [List.flatMap_cons, List.length_append, ih, Array.length_toList, hA, List.length_cons, Nat.succ_mul]; omega
section
variable {w w1 : World} {B T k : Nat} {A : α → Array Value} {v : Value} {l : List α}
theorem RowIs.nil (w : World) (B T k : Nat) (A : α → Array Value) : RowIs w B T k A (.slice none 0 0) ([] : List α) := World.ownsRow_nil w B T k
theorem RowIs.at_ (h : RowIs w B T k A v l) (hA : ∀ x, (A x).size = k) {i : Nat} {x : α} (hx : l[i]? = some x) : ∃ g cap, v = .slice (some ⟨g, 0, none⟩) l.length cap ∧ l.length ≤ cap ∧ g < w.heap.size ∧ ∀ j, j < k → w.cell? ⟨g, i * k + j, none⟩ = (A x)[j]? := by
 have hi : i < l.length := (List.getElem?_eq_some_iff.1 hx).1
 rcases h.2 with ⟨rfl, hn⟩ | ⟨g, cap, cur, rfl, _, hg, hnc, _, hcs, htake⟩
 ·omega
 ·refine ⟨g, cap, rfl, hnc, blk_lt hg, fun j hj => ?_⟩
  have hlt : i * k + j < l.length * k := by
   have : (i + 1) * k ≤ l.length * k := Nat.mul_le_mul_right _ hi
   rw [Nat.succ_mul] at this
   omega
  rw [blk_cell hg, ← flat_get hA l i j x hx hj, ← htake, List.getElem?_take_of_lt hlt]
  simp
end
theorem RowIs.form {α : Type} {w : World} {B T k : Nat} {A : α → Array Value} {v : Value} {l : List α} (h : RowIs w B T k A v l) : ∃ a cap, v = .slice a l.length cap ∧ l.length ≤ cap := by
 rcases h.2 with ⟨rfl, hn⟩ | ⟨g, cap, cur, rfl, _, hg, hnc, _⟩
 ·exact ⟨none, 0, by rw [hn], by omega⟩
 ·exact ⟨_, cap, rfl, hnc⟩
theorem lawI : Keyed Try.prog 3 := int_keyed Try.underlying3
theorem laidOut_ : laidOutB Try.prog = true := by kernel_rfl
theorem lawH : Keyed Try.prog 34 := Keyed.of_law (deep_law_laid laidOut_ (m := 3) (by decide) (of_decide_eq_true (by kernel_rfl)) (by kernel_rfl) (by kernel_rfl))
theorem ha_inj (x y : Ha) (h : haV x = haV y) : x = y := by
 injection h with h
 have h1 := congrArg (fun a => a[0]?) h
 have h2 := congrArg (fun a => a[1]?) h
 simp at h1 h2
 exact Prod.ext h1 h2
theorem int_inj' (x y : Int) (h : Value.int .i64 x = Value.int .i64 y) : x = y := by injection h
theorem zeroI (w : World) : (zeroValue 3).run Try.prog w = .ok (.int .i64 0) w := by kernel_rfl
section
variable {w w1 : World} {B b n m1 m2 : Nat} {s : Story} {vl vv vc : Value}
theorem types_ne {w : World} {g g' : Nat} {c c' : Array Value} {t t' : TypeId} (h : w.heap[g]? = some (.cells c t (0, 0))) (h' : w.heap[g']? = some (.cells c' t' (0, 0))) (e : t ≠ t') : g ≠ g' := by
 rintro rfl
 rw [h] at h'
 injection h' with h'
 injection h' with _ h'
 exact e h'
theorem map_ne {w : World} {g g' : Nat} {c : Array Value} {t : TypeId} {es : Array MapEntry} {cl : Nat} (h : w.heap[g]? = some (.cells c t (0, 0))) (h' : w.heap[g']? = some (.map es cl)) : g ≠ g' := by
 rintro rfl
 rw [h] at h'
 injection h' with h'
 cases h'
end
structure Fr (w w' : World) (S : Nat → Prop) : Prop where
 os : w'.os = w.os
 tape : w'.tape = w.tape
 output : w'.output = w.output
 size : w.heap.size ≤ w'.heap.size
 block : ∀ g, g < w.heap.size → ¬ S g → w'.heap[g]? = w.heap[g]?
section
variable {w w1 w2 : World} {S S' : Nat → Prop}
theorem Fr.refl (w : World) (S : Nat → Prop) : Fr w w S := ⟨rfl, rfl, rfl, Nat.le_refl _, fun _ _ _ => rfl⟩
theorem Fr.trans (h : Fr w w1 S) (h' : Fr w1 w2 S) : Fr w w2 S := ⟨h'.os.trans h.os, h'.tape.trans h.tape, h'.output.trans h.output, Nat.le_trans h.size h'.size, fun g hg hs => (h'.block g (Nat.lt_of_lt_of_le hg h.size) hs).trans (h.block g hg hs)⟩
theorem Fr.mono (h : Fr w w1 S) (hs : ∀ g, S g → S' g) : Fr w w1 S' := ⟨h.os, h.tape, h.output, h.size, fun g hg hn => h.block g hg (fun q => hn (hs g q))⟩
theorem Fr.of_below (h : Below w.heap.size w w1) (S : Nat → Prop) : Fr w w1 S := ⟨h.os, h.tape, h.output, h.size, fun g hg _ => h.block g hg⟩
theorem Fr.of_grown {row : Option Nat} (h : w.grownBy w1 row) : Fr w w1 (fun g => some g = row) := ⟨h.os, h.tape, h.output, h.size, fun g hg hn => h.block g hg hn⟩
theorem Fr.alloc (h : Fr w w1 S) (o : Obj) : Fr w (w1.alloc o) S := h.trans (Fr.of_below (below_alloc (Below.refl _ _) o) S)
theorem Fr.drew (h : Fr w w1 S) : Fr w w1.drew S := ⟨h.os, h.tape, h.output, h.size, h.block⟩
theorem Fr.drewN (h : Fr w w1 S) (n : Nat) : Fr w (w1.drewN n) S := ⟨h.os, h.tape, h.output, h.size, h.block⟩
theorem Fr.set (h : Fr w w1 S) (p : Addr) (u : Value) (hp : w.heap.size ≤ p.block ∨ S p.block) : Fr w (w1.setCell p u) S :=
 ⟨h.os, h.tape, h.output, by simpa using h.size, fun g hg hn => (Below.heap_setCell w1 p u g (fun e => by subst e; rcases hp with q | q; omega; exact hn q)).trans (h.block g hg hn)⟩
theorem Fr.below {B : Nat} (h : Fr w w1 S) (hB : B ≤ w.heap.size) (hs : ∀ g, S g → B ≤ g) : Below B w w1 := ⟨h.os, h.tape, h.output, h.size, fun g hg => h.block g (by omega) (fun q => by have := hs g q; omega)⟩
theorem Fr.blk {g : Nat} {o : Obj} (h : Fr w w1 S) (hb : w.heap[g]? = some o) (hn : ¬ S g) : w1.heap[g]? = some o := (h.block g (blk_lt hb) hn).trans hb
end
end Go.Proofs.Ythniclbmpeklmaa.Au
end
section
namespace Go.Proofs.Ythniclbmpeklmaa.Au
open Go.RowKit Go.Maps Go.Proofs.YthniclbmpeklmaaW.PrintWords Go.Proofs.YthniclbmpeklmaaW.PrintLast Go.Proofs.YthniclbmpeklmaaW.PrintMore Go.Proofs.Ythniclbmpeklmaa.Mp
set_option linter.unusedVariables false
set_option linter.unusedSimpArgs false
theorem litsH (d : Nat) (x y : Int) (hx : (Lit.int .i64 x).wf = true) (hy : (Lit.int .i64 y).wf = true) : Try.prog.keyLits (d + 2) 34 [.int .i64 x, .int .i64 y] = some [.int .i64 x, .int .i64 y] := by
 have h34 := Try.underlying34
 have h3 := Try.underlying3
 have c34 : Try.prog.cellsOf 34 = 2 := by kernel_rfl
 have c3 : Try.prog.cellsOf 3 = 1 := by kernel_rfl
 simp [Program.keyLits, h34, h3, c34, c3, hx, hy]
theorem keyH (x y : Int) (hx : (Lit.int .i64 x).wf = true) (hy : (Lit.int .i64 y).wf = true) : ∃ kl, keyOf Try.prog 34 (haV (x, y)) = some kl := by
 have h34 := Try.underlying34
 have c34 : Try.prog.cellsOf 34 = 2 := by kernel_rfl
 have hk : Try.prog.keyType 34 = true := by kernel_rfl
 have hs : Try.prog.types.size = (Try.prog.types.size - 1) + 1 := by kernel_rfl
 have hf : (haV (x, y)).formed Try.prog 34 = true := by simp [Value.formed, h34, c34]
 refine ⟨.string (keyBytes [.int .i64 x, .int .i64 y]), ?_⟩
 unfold keyOf
 rw [h34]
 simp only [hk, hf, Bool.and_self, if_true]
 rw [show (haV (x, y)).cells.toList = [.int .i64 x, .int .i64 y] from rfl, hs, litsH _ x y hx hy]
 rfl
section
variable {α : Type} {W : World} {B T k : Nat} {A : α → Array Value} {v : Value} {l : List α} {o : Oper} {a : Act} {K : Act → World → Prop} {Q : Exit → Act → World → Prop} {ops : Array Oper} {rest : List Oper}
theorem RowIs.append_wp (S : Nat) (bytes : Nat) (z : Value) (p q : Operand) (hS : Try.prog.underlying S = some (.slice T)) (hinfo : (Try.prog.info? T).map (fun i => (i.zero, i.size, i.bytes)) = some (some z, k, bytes)) (hz : z.cells.size = k) (hk : 0 < k)
  (ho : o.op = .call { callee := .builtin .append, args := #[p, q], argTypes := #[S, S] }) (h : RowIs W B T k A v l) (x : α) (hx : (A x).size = k) (h1 : ∀ u ∈ (A x).toList, u.oneCell' = true) (hp : a.eval p = v) (hq : a.eval q = .slice (some ⟨W.heap.size, 0, none⟩) 1 1)
  (hl : l.length ≤ 1000000) (hb : bytes ≤ 1000) (hB : B ≤ W.heap.size)
  (hK : ∀ g cap w6, RowIs w6 B T k A (.slice (some ⟨g, 0, none⟩) (l.length + 1) cap) (l ++ [x]) → (W.alloc (.cells (A x) T)).grownBy w6 v.ownBlock → (v.ownBlock = some g ∨ g = W.heap.size + 1) → K (a.put o.dst (.slice (some ⟨g, 0, none⟩) (l.length + 1) cap)) w6) :
  o.wp Try.prog a (W.alloc (.cells (A x) T)) K Q := by
 obtain ⟨i0, hi0, hz0, hz1, hz2⟩ := info_parts hinfo
 have hr : (W.alloc (.cells (A x) T)).ownsRow B T k v l.length (l.flatMap fun x => (A x).toList) := pw_own_below h (below_alloc (Below.refl _ _) _)
 have hbb : (l.length + 1) * bytes ≤ 1000001 * 1000 := Nat.mul_le_mul (by omega) hb
 refine wp_append_lies _ p q _ ho B T i0 z k bytes hS hi0 hz0 hz1 hz2 hz hk v l.length _ hp hr ⟨W.heap.size, 0, none⟩ 1 1 (A x).toList hq (by simp [hx]) (World.news_of_block (cs := A x) (t := T) (fr := (0, 0)) (heap_alloc_new W _)) h1 (by omega) (by unfold maxLen; omega) (by omega) (by simp; omega) (W.heap.size + 1) (by simp) ?_
 intro g cap w6 hown hgrow hat hlt
 refine hK g cap w6 ?_ hgrow hat
 unfold RowIs
 rw [List.length_append, List.flatMap_append]
 simpa using hown
theorem RowIs.append_wpl (hgd : o.guard = none) (S : Nat) (bytes : Nat) (z : Value) (p q : Operand) (hS : Try.prog.underlying S = some (.slice T)) (hinfo : (Try.prog.info? T).map (fun i => (i.zero, i.size, i.bytes)) = some (some z, k, bytes)) (hz : z.cells.size = k) (hk : 0 < k)
  (ho : o.op = .call { callee := .builtin .append, args := #[p, q], argTypes := #[S, S] }) (h : RowIs W B T k A v l) (x : α) (hx : (A x).size = k) (h1 : ∀ u ∈ (A x).toList, u.oneCell' = true) (hp : a.eval p = v) (hq : a.eval q = .slice (some ⟨W.heap.size, 0, none⟩) 1 1)
  (hl : l.length ≤ 1000000) (hb : bytes ≤ 1000) (hB : B ≤ W.heap.size)
  (hK : ∀ g cap w6, RowIs w6 B T k A (.slice (some ⟨g, 0, none⟩) (l.length + 1) cap) (l ++ [x]) → (W.alloc (.cells (A x) T)).grownBy w6 v.ownBlock → (v.ownBlock = some g ∨ g = W.heap.size + 1) → wpList Try.prog ops Q rest (a.put o.dst (.slice (some ⟨g, 0, none⟩) (l.length + 1) cap)) w6) :
  wpList Try.prog ops Q (o :: rest) a (W.alloc (.cells (A x) T)) :=
 wpList_plain hgd fun _ hK' => RowIs.append_wp S bytes z p q hS hinfo hz hk ho h x hx h1 hp hq hl hb hB fun g cap w6 h2 h3 h4 => hK' _ _ (hK g cap w6 h2 h3 h4)
end
section
variable {w W W1 : World} {B b n m1 m2 : Nat} {s : Story} {vl vv vc : Value}
end
end Go.Proofs.Ythniclbmpeklmaa.Au
end
section
namespace Go.Proofs.Ythniclbmpeklmaa.Ev
open Go.RowKit Go.Proofs.YthniclbmpeklmaaW.PrintWords Go.Proofs.YthniclbmpeklmaaW.PrintLast Go.Proofs.YthniclbmpeklmaaW.PrintMore
set_option linter.unusedVariables false
set_option linter.unusedSimpArgs false
abbrev evC (k wk op hn hg nn ng t a u : Int) (y : Bool) (er : Int) : Array Value := #[.int .i64 k, .int .i64 wk, .int .i64 op, .int .i64 hn, .int .i64 hg, .int .i64 nn, .int .i64 ng, .int .i64 t, .int .i64 a, .int .i64 u, .bool y, .int .i64 er]
end Go.Proofs.Ythniclbmpeklmaa.Ev
end
section
namespace Go.Proofs.Ythniclbmpeklmaa.Ev
open Go.RowKit Go.Proofs.YthniclbmpeklmaaW.PrintWords Go.Proofs.YthniclbmpeklmaaW.PrintLast Go.Proofs.YthniclbmpeklmaaW.PrintMore
set_option linter.unusedVariables false
set_option linter.unusedSimpArgs false
def in3 (x y z n : Int) : Bool := x == n || (y == n || z == n)
def made (op : Int) : Bool := op == 1 || op == 3
def hasN (k op er : Int) : Bool := (k == 3 || k == 5) && made op && er == 0
def hasT (k op er : Int) : Bool := k == 1 || k == 4 || k == 2 && made op || k == 3 && made op && er == 0 || k == 5 && (op == 6 || op == 7)
def hasA (k op : Int) : Bool := k == 2 && (op == 1 || op == 4)
def hasU (k op : Int) : Bool := k == 4 || k == 2 && op == 1
def hasY (k op : Int) : Bool := (k == 3 || k == 5) && op == 2
def hasE (k op : Int) : Bool := (k == 3 || k == 5) && in3 1 3 4 op
def hasH (k op : Int) : Bool := k == 4 || ((k == 2 && in3 2 3 4 op) || (k == 3 && in3 2 3 4 op))
end Go.Proofs.Ythniclbmpeklmaa.Ev
end
section
namespace Go.Proofs.Ythniclbmpeklmaa.Ev
open Go.RowKit Go.Proofs.YthniclbmpeklmaaW.PrintWords Go.Proofs.YthniclbmpeklmaaW.PrintLast Go.Proofs.YthniclbmpeklmaaW.PrintMore
set_option linter.unusedVariables false
set_option linter.unusedSimpArgs false
def emptyB (k op hn hg nn ng t a u : Int) (y : Bool) (er : Int) : Bool :=
 !(!hasH k op && !(hn == 0 && hg == 0) || !hasN k op er && !(nn == 0 && ng == 0) || !hasT k op er && t != 0 || !hasA k op && a != 0) && ((hasU k op || u == 0) && (hasY k op || !y) && (hasE k op || er == 0))
end Go.Proofs.Ythniclbmpeklmaa.Ev
end
section
namespace Go.Proofs.Ythniclbmpeklmaa.Ev
open Go.RowKit Go.Proofs.YthniclbmpeklmaaW.PrintWords Go.Proofs.YthniclbmpeklmaaW.PrintLast Go.Proofs.YthniclbmpeklmaaW.PrintMore
set_option linter.unusedVariables false
set_option linter.unusedSimpArgs false
def kindB (k wk op : Int) : Bool :=
 (k == 1 && (op == 0 && wk == 0)) || (k == 4 && op == 0) || ((k == 2 || k == 5) && (decide (1 ≤ op) && decide (op ≤ 7))) || (k == 3 && (decide (1 ≤ op) && decide (op ≤ 4)))
def evRight (k wk op hn hg nn ng t a u : Int) (y : Bool) (er : Int) : Bool :=
 kindB k wk op && emptyB k op hn hg nn ng t a u y er && decide (0 ≤ wk) && decide (0 ≤ er) &&
  (k == 2 || ((k == 3 || (decide (0 ≤ hn) && decide (0 ≤ hg))) && (decide (0 ≤ nn) && decide (0 ≤ ng) && decide (0 ≤ a) && decide (0 ≤ u) && (if k = 5 then decide (-1 ≤ t) else decide (0 ≤ t)))))
end Go.Proofs.Ythniclbmpeklmaa.Ev
end
section
namespace Go.Proofs.Ythniclbmpeklmaa.Ju
open Go.RowKit Go.Proofs.Ythniclbmpeklmaa.Au
set_option linter.unusedVariables false
def rightJ (e : Ev) : Bool := Ev.evRight e.k e.wk e.op e.hn e.hg e.nn e.ng e.t e.a e.u e.y e.er
structure Md where
 clk : Int
 fat : Ha → Option (Int × Int)
 lst : Int → Option Int
def md0 : Md := ⟨0, fun _ => none, fun _ => none⟩
def Md.st (m : Md) (h : Ha) : Int := ((m.fat h).getD (0, 0)).1
def Md.dl (m : Md) (h : Ha) : Int := ((m.fat h).getD (0, 0)).2
def updF (f : Ha → Option (Int × Int)) (x : Ha) (v : Int × Int) : Ha → Option (Int × Int) := fun l => if l = x then some v else f l
def updL (f : Int → Option Int) (x : Int) (v : Int) : Int → Option Int := fun l => if l = x then some v else f l
def Md.end_ (m : Md) (h : Ha) (s : Int) : Md := { m with fat := updF m.fat h (s, 0) }
def Md.arm (m : Md) (h : Ha) (d : Int) : Md := { m with fat := updF m.fat h (1, d), lst := updL m.lst h.1 h.2 }
def Md.startOk (m : Md) (h : Ha) : Bool := !(m.lst h.1).isSome || (m.st (h.1, (m.lst h.1).getD 0) != 1 && decide ((m.lst h.1).getD 0 < h.2))
def pointF (m : Md) (e : Ev) : Md × Int :=
 if e.op = 2 ∧ e.y = true then (if m.st e.h = 1 then (m.end_ e.h 3, 0) else (m, 6))
 else if e.op = 2 ∨ (e.er = 4 ∧ e.op ≠ 1) then (if m.st e.h = 1 then (m, 6) else (m, 0))
 else if e.er ≠ 0 then (m, 0)
 else if e.op = 1 then (if m.startOk e.new = true then (m.arm e.new e.t, 0) else (m, 6))
 else if e.op = 4 then (if m.st e.h = 1 then (m, 0) else (m, 6))
 else if m.st e.h = 1 ∧ e.nn = e.hn ∧ e.ng = wrap64 (e.hg + 1) then ((m.end_ e.h 4).arm e.new e.t, 0) else (m, 6)
def doF (m : Md) (e : Ev) : Md × Int :=
 if rightJ e = false then (m, 8)
 else if e.k = 1 then (if e.t = wrap64 (m.clk + 1) then ({ m with clk := e.t }, 0) else (m, 6))
 else if e.k = 4 then (if m.st e.h = 1 ∧ m.dl e.h ≤ e.t ∧ e.t ≤ m.clk then (m.end_ e.h 2, 0) else (m, 6))
 else if e.k = 3 then pointF m e
 else (m, 8)
structure Wk where
 op : Int
 hn : Int
 hg : Int
 t : Int
 beg : Int
 pt : Option (Int × Int × Bool × Int)
structure Be where
 nw : Int
 m : Md
 wks : Int → Option Wk
end Go.Proofs.Ythniclbmpeklmaa.Ju
end
section
namespace Go.Proofs.Ythniclbmpeklmaa.Ju
open Go.RowKit Go.Maps Go.Proofs.YthniclbmpeklmaaW.PrintWords Go.Proofs.YthniclbmpeklmaaW.PrintLast Go.Proofs.YthniclbmpeklmaaW.PrintMore Go.Proofs.Ythniclbmpeklmaa.Mp Go.Proofs.Ythniclbmpeklmaa.Au
set_option linter.unusedVariables false
set_option linter.unusedSimpArgs false
abbrev faV (p : Int × Int) : Value := .agg #[.int .i64 p.1, .int .i64 p.2]
def fV (f : Ha → Option (Int × Int)) : Ha → Option Value := fun x => (f x).map faV
def iV (f : Int → Option Int) : Int → Option Value := fun x => (f x).map (Value.int .i64)
abbrev mdA (m : Md) (m1 m2 : Nat) : Array Value := #[.int .i64 m.clk, .map (some m1), .map (some m2)]
structure MdIs (w : World) (B b n : Nat) (m : Md) (m1 m2 : Nat) : Prop where
 blk : w.heap[b]? = some (.cells (mdA m m1 m2) 125 (0, 0))
 mf : ∃ z, z ≤ n ∧ MapIs haV Try.prog 34 w m1 z (fV m.fat)
 ml : ∃ z, z ≤ n ∧ MapIs (Value.int .i64) Try.prog 3 w m2 z (iV m.lst)
 hb : B ≤ b
 h1 : B ≤ m1
 h2 : B ≤ m2
 m12 : m1 ≠ m2
theorem zeroFa (w : World) : (zeroValue 122).run Try.prog w = .ok (faV (0, 0)) w := by kernel_rfl
section
variable {w w1 : World} {B b n m1 m2 : Nat} {m : Md}
theorem MdIs.move (h : MdIs w B b n m m1 m2) (hb : ∀ g, g < w.heap.size → g = b ∨ g = m1 ∨ g = m2 → w1.heap[g]? = w.heap[g]?) : MdIs w1 B b n m m1 m2 := by
 obtain ⟨z1, hz1, h1⟩ := h.mf
 obtain ⟨z2, hz2, h2⟩ := h.ml
 exact ⟨(hb b (blk_lt h.blk) (.inl rfl)).trans h.blk, ⟨z1, hz1, h1.move (hb m1 h1.lt (.inr (.inl rfl)))⟩, ⟨z2, hz2, h2.move (hb m2 h2.lt (.inr (.inr rfl)))⟩, h.hb, h.h1, h.h2, h.m12⟩
theorem MdIs.up {n' : Nat} (h : MdIs w B b n m m1 m2) (hn : n ≤ n') : MdIs w B b n' m m1 m2 := by
 obtain ⟨z1, hz1, h1⟩ := h.mf
 obtain ⟨z2, hz2, h2⟩ := h.ml
 exact ⟨h.blk, ⟨z1, by omega, h1⟩, ⟨z2, by omega, h2⟩, h.hb, h.h1, h.h2, h.m12⟩
theorem MdIs.below (h : MdIs w B b n m m1 m2) (hb : Below w.heap.size w w1) : MdIs w1 B b n m m1 m2 := h.move fun g hg _ => hb.block g hg
theorem MdIs.alloc (h : MdIs w B b n m m1 m2) (o : Obj) : MdIs (w.alloc o) B b n m m1 m2 := h.below (below_alloc (Below.refl _ _) o)
theorem MdIs.drew (h : MdIs w B b n m m1 m2) : MdIs w.drew B b n m m1 m2 := h.move fun g hg _ => rfl
theorem MdIs.drewN (h : MdIs w B b n m m1 m2) (q : Nat) : MdIs (w.drewN q) B b n m m1 m2 := h.move fun g hg _ => rfl
theorem MdIs.cell (h : MdIs w B b n m m1 m2) (i : Nat) : w.cell? ⟨b, i, none⟩ = (mdA m m1 m2)[i]? := blk_cell h.blk i
theorem MdIs.lt (h : MdIs w B b n m m1 m2) : b < w.heap.size := blk_lt h.blk
theorem MdIs.lt1 (h : MdIs w B b n m m1 m2) : m1 < w.heap.size := by obtain ⟨z1, _, h1⟩ := h.mf; exact h1.lt
theorem MdIs.b1 (h : MdIs w B b n m m1 m2) : b ≠ m1 := by obtain ⟨z1, _, h1⟩ := h.mf; obtain ⟨_, _, q⟩ := h1.block; exact map_ne h.blk q
theorem MdIs.b2 (h : MdIs w B b n m m1 m2) : b ≠ m2 := by obtain ⟨z1, _, h1⟩ := h.ml; obtain ⟨_, _, q⟩ := h1.block; exact map_ne h.blk q
theorem MdIs.clock (h : MdIs w B b n m m1 m2) (t : Int) : MdIs (w.setCell ⟨b, 0, none⟩ (.int .i64 t)) B b n { m with clk := t } m1 m2 := by
 obtain ⟨z1, hz1, h1⟩ := h.mf
 obtain ⟨z2, hz2, h2⟩ := h.ml
 exact ⟨blk_set h.blk 0 _, ⟨z1, hz1, h1.move (Below.heap_setCell _ _ _ _ h.b1.symm)⟩, ⟨z2, hz2, h2.move (Below.heap_setCell _ _ _ _ h.b2.symm)⟩, h.hb, h.h1, h.h2, h.m12⟩
theorem MdIs.look (h : MdIs w B b n m m1 m2) {x : Ha} {kl : Lit} (hk : keyOf Try.prog 34 (haV x) = some kl) (W : World) (hb : W.heap[m1]? = w.heap[m1]?) :
  (Instr.lookup 123 (.map (some m1)) (haV x) false).run Try.prog W = .ok (.agg #[.int .i64 (m.st x), .int .i64 (m.dl x)]) W := by
 obtain ⟨z1, hz1, h1⟩ := h.mf
 have := (h1.move hb).look lawH Try.underlying123 (zeroFa W) (x := x) hk
 rw [this]
 unfold fV Md.st Md.dl
 cases m.fat x <;> rfl
theorem MdIs.lookL (h : MdIs w B b n m m1 m2) {x : Int} (hx : (Lit.int .i64 x).wf = true) (W : World) (hb : W.heap[m2]? = w.heap[m2]?) :
  (Instr.lookup 95 (.map (some m2)) (.int .i64 x) true).run Try.prog W = .ok (.tuple #[.int .i64 ((m.lst x).getD 0), .bool (m.lst x).isSome]) W := by
 obtain ⟨z1, hz1, h1⟩ := h.ml
 have := (h1.move hb).look_ok lawI Try.underlying95 (zeroI W) (x := x) (keyOf_int_mk Try.underlying3 hx)
 rw [this]
 unfold iV
 cases m.lst x <;> rfl
theorem fV_upd (f : Ha → Option (Int × Int)) (h : Ha) (v : Int × Int) : (fun l => if l = h then some (faV v) else fV f l) = fV (updF f h v) := by
 funext l
 unfold fV updF
 by_cases e : l = h <;> simp [e]
theorem iV_upd (f : Int → Option Int) (h : Int) (v : Int) : (fun l => if l = h then some (.int .i64 v) else iV f l) = iV (updL f h v) := by
 funext l
 unfold iV updL
 by_cases e : l = h <;> simp [e]
theorem MdIs.putF (h : MdIs w B b n m m1 m2) {f' : Ha → Option (Int × Int)} {z' : Nat} (hm : MapIs haV Try.prog 34 w1 m1 z' (fV f')) (hz : z' ≤ n + 1) (hg : w.grownBy w1 (some m1)) : MdIs w1 B b (n + 1) { m with fat := f' } m1 m2 := by
 obtain ⟨z2, hz2, h2⟩ := h.ml
 exact ⟨blk_grown h.blk hg (fun q => h.b1 (Option.some.inj q)), ⟨z', hz, hm⟩, ⟨z2, by omega, h2.move (hg.block m2 h2.lt (fun q => h.m12 (Option.some.inj q).symm))⟩, h.hb, h.h1, h.h2, h.m12⟩
theorem MdIs.putL (h : MdIs w B b n m m1 m2) {f' : Int → Option Int} {z' : Nat} (hm : MapIs (Value.int .i64) Try.prog 3 w1 m2 z' (iV f')) (hz : z' ≤ n + 1) (hg : w.grownBy w1 (some m2)) : MdIs w1 B b (n + 1) { m with lst := f' } m1 m2 := by
 obtain ⟨z1, hz1, h1⟩ := h.mf
 exact ⟨blk_grown h.blk hg (fun q => h.b2 (Option.some.inj q)), ⟨z1, by omega, h1.move (hg.block m1 h1.lt (fun q => h.m12 (Option.some.inj q)))⟩, ⟨z', hz, hm⟩, h.hb, h.h1, h.h2, h.m12⟩
end
def mdS (b m1 m2 : Nat) : Nat → Prop := fun g => g = b ∨ g = m1 ∨ g = m2
section
variable {w w1 w2 : World} {B b n mb m1 m2 m3 : Nat} {s : Be} {pf : Int → Option Nat}
end
end Go.Proofs.Ythniclbmpeklmaa.Ju
end
section
set_option maxHeartbeats 4000000
set_option maxRecDepth 100000
namespace Go.Proofs.Ythniclbmpeklmaa.Ju
open Go.RowKit Go.Maps Go.Proofs.YthniclbmpeklmaaW.PrintWords Go.Proofs.YthniclbmpeklmaaW.PrintLast Go.Proofs.YthniclbmpeklmaaW.PrintMore Go.Proofs.Ythniclbmpeklmaa.Mp Go.Proofs.Ythniclbmpeklmaa.Au
set_option linter.unusedVariables false
set_option linter.unusedSimpArgs false
abbrev pA (b : Nat) : Value := .pointer (some ⟨b, 0, none⟩)
theorem still_tail_at' {P : Program} {id : Nat} {Q : Exit → Act → World → Prop} {a : Act} {w : World} {l : List Oper} (n : Nat) (hm : P.follows .mixedOrders = true) (hB : Region.lexTailB .any l.toArray n = true)
  (h : ∀ w2, w2 = w.drew → wpStill P l.toArray w2 (fun a' => wpList P l.toArray Q (l.drop n) a' w2) (l.take n) a) : (Code.region id l.toArray true).wp P Q a w :=
 wp_region_still_tail n hm hB (h _ rfl)
theorem fate_field (a d : Int) (W : World) : (Instr.field 122 (.agg #[.int .i64 a, .int .i64 d]) 0).run Try.prog W = .ok (.int .i64 a) W := by first | kernel_rfl | rfl | (have hu2 := Try.underlying122; simp [Instr.field, go_sem, hu2])
theorem model_new (w : World) : Calls Try.prog 40 #[] w fun r w' => r = .returned (pA (w.heap.size + 1 + 1)) ∧ MdIs w' w.heap.size (w.heap.size + 1 + 1) 0 md0 w.heap.size (w.heap.size + 1) ∧ Below w.heap.size w w' := by
 have hmm := @run_makeMap Try.prog
 have hu0 := Try.underlying125
 go_enter Try.func40, Try.ntmps40
 go_wp2
 go_ret
 have q1 := (MapIs.made (c := haV) w Try.prog 34).move (w' := ((w.alloc (.map #[] 0)).alloc (.map #[] 0)).alloc (.cells (mdA md0 w.heap.size (w.heap.size + 1)) 125)) (by rw [Below.heap_alloc _ _ _ (by simp; omega), Below.heap_alloc _ _ _ (by simp)])
 have q2 := (MapIs.made (c := Value.int .i64) (w.alloc (.map #[] 0)) Try.prog 3).move (w' := ((w.alloc (.map #[] 0)).alloc (.map #[] 0)).alloc (.cells (mdA md0 w.heap.size (w.heap.size + 1)) 125)) (by rw [Below.heap_alloc _ _ _ (by simp)])
 rw [show (w.alloc (.map #[] 0)).heap.size = w.heap.size + 1 by simp] at q2
 refine ⟨rfl, ⟨by have q := blk_new ((w.alloc (.map #[] 0)).alloc (.map #[] 0)) (.cells (mdA md0 w.heap.size (w.heap.size + 1)) 125); rw [show ((w.alloc (.map #[] 0)).alloc (.map #[] 0)).heap.size = w.heap.size + 1 + 1 by simp] at q; exact q, ⟨0, Nat.le_refl _, q1⟩, ⟨0, Nat.le_refl _, q2⟩, by omega, by omega, by omega, by omega⟩, below_alloc (below_alloc (below_alloc (Below.refl _ _) _) _) _⟩
theorem model_clock {w : World} {B b n m1 m2 : Nat} {m : Md} (h : MdIs w B b n m m1 m2) : Calls Try.prog 41 #[pA b] w fun r w' => r = .returned (.int .i64 m.clk) ∧ w = w' := by
 have hu0 := Try.underlying125
 have hc := fun i => h.cell i
 have hlt := h.lt
 clear h
 go_enter Try.func41, Try.ntmps41
 go_wp2
 go_ret
 exact ⟨rfl, rfl⟩
theorem model_status {w : World} {B b n m1 m2 : Nat} {m : Md} (x y : Int) (hx : (Lit.int .i64 x).wf = true) (hy : (Lit.int .i64 y).wf = true) (h : MdIs w B b n m m1 m2) : Calls Try.prog 33 #[pA b, .agg #[.int .i64 x, .int .i64 y]] w fun r w' => r = .returned (.int .i64 (m.st (x, y))) ∧ Below w.heap.size w w' := by
 have hu0 := Try.underlying125
 have hu1 := Try.underlying34
 have hu3 := Try.underlying122
 obtain ⟨kl, hk⟩ := keyH x y hx hy
 have hl := fun q => h.look hk ((w.alloc (.cells #[.int .i64 x, .int .i64 y] 34)).drewN q) (Below.heap_alloc w _ m1 h.lt1)
 obtain ⟨s, hs⟩ : ∃ s, m.st (x, y) = s := ⟨_, rfl⟩
 obtain ⟨d, hd⟩ : ∃ d, m.dl (x, y) = d := ⟨_, rfl⟩
 rw [hs, hd] at hl
 rw [hs]
 have hff := fun W => fate_field s d W
 have hc := fun i => h.cell i
 have hlt := h.lt
 clear h hk hs hd hx hy
 go_enter Try.func33, Try.ntmps33
 go_wp2
 go_quiet (fail)
 go_wp2
 go_ret
 exact ⟨rfl, by repeat (first | exact Below.refl _ _ | apply below_alloc | apply pw_below_drewN)⟩
theorem model_nothing (w : World) : Calls Try.prog 100 #[] w fun r w' => r = .returned (.tuple #[]) ∧ w' = w := by
 go_enter Try.func100, Try.ntmps100
 go_wp2
 go_end0
 exact ⟨rfl, rfl⟩
theorem unless_no (fn : Fn) (first cap : Array Value) (w : World) : Calls Try.prog 73 #[.bool false, .func fn first cap] w fun r w' => r = .returned (.int .i64 6) ∧ w' = w := by
 go_enter Try.func73, Try.ntmps73
 go_wp2
 go_ret
 exact ⟨rfl, rfl⟩
theorem unless_tick (cap : Array Value) (w : World) (Q : World → Prop) (h : Calls Try.prog 74 cap w fun r w' => r = .returned (.tuple #[]) ∧ Q w') : Calls Try.prog 73 #[.bool true, .func (.func 74) #[] cap] w fun r w' => r = .returned (.int .i64 0) ∧ Q w' := by
 have H := Aside0.mk (show Calls Try.prog 74 cap w fun r w' => r = .returned (.tuple #[]) ∧ Q w' from h)
 clear h
 go_enter Try.func73, Try.ntmps73
 go_wp2_with (go_at_call 74; (with_reducible refine H.out.mono ?_); rintro r w2 ⟨rfl, hq⟩; have HQ := Aside0.mk hq; clear hq)
 go_ret
 exact ⟨rfl, HQ.out⟩
theorem unless_end (cap : Array Value) (w : World) (Q : World → Prop) (h : Calls Try.prog 99 cap w fun r w' => r = .returned (.tuple #[]) ∧ Q w') : Calls Try.prog 73 #[.bool true, .func (.func 99) #[] cap] w fun r w' => r = .returned (.int .i64 0) ∧ Q w' := by
 have H := Aside0.mk (show Calls Try.prog 99 cap w fun r w' => r = .returned (.tuple #[]) ∧ Q w' from h)
 clear h
 go_enter Try.func73, Try.ntmps73
 go_wp2_with (go_at_call 99; (with_reducible refine H.out.mono ?_); rintro r w2 ⟨rfl, hq⟩; have HQ := Aside0.mk hq; clear hq)
 go_ret
 exact ⟨rfl, HQ.out⟩
theorem unless_nothing (cap : Array Value) (w : World) (Q : World → Prop) (h : Calls Try.prog 100 cap w fun r w' => r = .returned (.tuple #[]) ∧ Q w') : Calls Try.prog 73 #[.bool true, .func (.func 100) #[] cap] w fun r w' => r = .returned (.int .i64 0) ∧ Q w' := by
 have H := Aside0.mk (show Calls Try.prog 100 cap w fun r w' => r = .returned (.tuple #[]) ∧ Q w' from h)
 clear h
 go_enter Try.func73, Try.ntmps73
 go_wp2_with (go_at_call 100; (with_reducible refine H.out.mono ?_); rintro r w2 ⟨rfl, hq⟩; have HQ := Aside0.mk hq; clear hq)
 go_ret
 exact ⟨rfl, HQ.out⟩
theorem unless_start (cap : Array Value) (w : World) (Q : World → Prop) (h : Calls Try.prog 101 cap w fun r w' => r = .returned (.tuple #[]) ∧ Q w') : Calls Try.prog 73 #[.bool true, .func (.func 101) #[] cap] w fun r w' => r = .returned (.int .i64 0) ∧ Q w' := by
 have H := Aside0.mk (show Calls Try.prog 101 cap w fun r w' => r = .returned (.tuple #[]) ∧ Q w' from h)
 clear h
 go_enter Try.func73, Try.ntmps73
 go_wp2_with (go_at_call 101; (with_reducible refine H.out.mono ?_); rintro r w2 ⟨rfl, hq⟩; have HQ := Aside0.mk hq; clear hq)
 go_ret
 exact ⟨rfl, HQ.out⟩
theorem unless_rearm (cap : Array Value) (w : World) (Q : World → Prop) (h : Calls Try.prog 103 cap w fun r w' => r = .returned (.tuple #[]) ∧ Q w') : Calls Try.prog 73 #[.bool true, .func (.func 103) #[] cap] w fun r w' => r = .returned (.int .i64 0) ∧ Q w' := by
 have H := Aside0.mk (show Calls Try.prog 103 cap w fun r w' => r = .returned (.tuple #[]) ∧ Q w' from h)
 clear h
 go_enter Try.func73, Try.ntmps73
 go_wp2_with (go_at_call 103; (with_reducible refine H.out.mono ?_); rintro r w2 ⟨rfl, hq⟩; have HQ := Aside0.mk hq; clear hq)
 go_ret
 exact ⟨rfl, HQ.out⟩
theorem tick_any {w : World} {B b n m1 m2 eb xb : Nat} {m : Md} (e : Ev) (h : MdIs w B b n m m1 m2) (he : w.heap[eb]? = some (.cells (evA e) 54 (0, 0))) (hx : w.heap[xb]? = some (.cells #[pA b] 58 (0, 0))) : Calls Try.prog 74 #[pA eb, pA xb] w fun r w' => r = .returned (.tuple #[]) ∧ MdIs w' B b n { m with clk := e.t } m1 m2 ∧ Fr w w' (mdS b m1 m2) := by
 have hu0 := Try.underlying125
 have hu2 := Try.underlying54
 have H := Aside0.mk h
 have hc := fun i => h.cell i
 have hf := fun i => blk_frozen h.blk i
 have hce := fun i => blk_cell he i
 have hcx := fun i => blk_cell hx i
 have hlt := h.lt
 have hle := blk_lt he
 have hlx := blk_lt hx
 clear h he hx
 go_enter Try.func74, Try.ntmps74
 go_wp2
 go_end0
 exact ⟨rfl, H.out.clock e.t, (Fr.refl _ _).set _ _ (.inr (.inl rfl))⟩
theorem end1_any {w : World} {B b n m1 m2 sb xb hb : Nat} {m : Md} (s x y : Int) (hn : n ≤ 1000000) (hx : (Lit.int .i64 x).wf = true) (hy : (Lit.int .i64 y).wf = true) (h : MdIs w B b n m m1 m2) (h1 : w.heap[sb]? = some (.cells #[.int .i64 s] 3 (0, 0))) (h2 : w.heap[xb]? = some (.cells #[pA b] 58 (0, 0))) (h3 : w.heap[hb]? = some (.cells #[.int .i64 x, .int .i64 y] 34 (0, 0))) :
  Calls Try.prog 99 #[pA sb, pA xb, pA hb] w fun r w' => r = .returned (.tuple #[]) ∧ MdIs w' B b (n + 1) (m.end_ (x, y) s) m1 m2 ∧ Fr w w' (mdS b m1 m2) := by
 have hu0 := Try.underlying125
 have hu1 := Try.underlying34
 have hu3 := Try.underlying122
 have H := Aside0.mk h
 have HK := Aside0.mk (keyH x y hx hy)
 have HN := Aside0.mk hn
 have hlt := h.lt
 have hl1 := blk_lt h1
 have hl2 := blk_lt h2
 have hl3 := blk_lt h3
 have hc := fun i => h.cell i
 have hc1 := fun i => blk_cell h1 i
 have hc2 := fun i => blk_cell h2 i
 have hc3 := fun i => blk_cell h3 i
 clear h h1 h2 h3 hx hy hn
 go_enter Try.func99, Try.ntmps99
 refine still_tail_at' 7 (by kernel_rfl) (by kernel_rfl) fun w2 hw2 => ?_
 have H2 := Aside0.mk (show MdIs w2 B b n m m1 m2 by rw [hw2]; exact H.out.drew)
 have HF2 := Aside0.mk (show Fr w w2 (mdS b m1 m2) by rw [hw2]; exact (Fr.refl _ _).drew)
 have hd := fun i => H2.out.cell i
 have hd1 : ∀ i, w2.cell? ⟨sb, i, none⟩ = #[Value.int .i64 s][i]? := by intro i; rw [hw2]; exact hc1 i
 have hd2 : ∀ i, w2.cell? ⟨xb, i, none⟩ = #[pA b][i]? := by intro i; rw [hw2]; exact hc2 i
 have hd3 : ∀ i, w2.cell? ⟨hb, i, none⟩ = #[Value.int .i64 x, Value.int .i64 y][i]? := by intro i; rw [hw2]; exact hc3 i
 have hz : w2.heap.size = w.heap.size := by rw [hw2]; rfl
 rw [← hz] at hlt hl1 hl2 hl3
 clear hw2 hc hc1 hc2 hc3 H hz
 simp only [List.take_succ_cons, List.take_zero, List.drop_succ_cons, List.drop_zero]
 repeat still_step
 refine wpStill_nil ?_
 obtain ⟨z1, hz1, hm1⟩ := H2.out.mf
 obtain ⟨kl, hkl⟩ := HK.out
 refine wpl_store ha_inj rfl _ _ _ 123 rfl hm1 lawH Try.underlying123 (by unfold maxLen; have := HN.out; omega) (y := (x, y)) hkl (val := faV (s, 0)) rfl rfl rfl ?_
 intro w4 hm4 hg4
 rw [fV_upd] at hm4
 have HM4 := Aside0.mk (H2.out.putF hm4 (by split <;> omega) hg4)
 have HF4 := Aside0.mk (HF2.out.trans ((Fr.of_grown hg4).mono (fun g q => .inr (.inl (Option.some.inj q)))))
 clear hm4 hg4 hm1 hz1 H2 HF2 hkl hd hd1 hd2 hd3
 go_wp2
 go_end0
 exact ⟨rfl, HM4.out, HF4.out⟩
theorem end_any (b : Nat) (x y s : Int) (w : World) : Calls Try.prog 75 #[pA b, .agg #[.int .i64 x, .int .i64 y], .int .i64 s] w fun r w' => r = .returned (.func (.func 99) #[] #[pA (w.heap.size + 1 + 1), pA w.heap.size, pA (w.heap.size + 1)]) ∧ ((w.alloc (.cells #[pA b] 58)).alloc (.cells #[.int .i64 x, .int .i64 y] 34)).alloc (.cells #[.int .i64 s] 3) = w' := by
 have hu1 := Try.underlying34
 have hmf : ∀ (fn : Fn) (first cap : Array Value) (w : World), (Instr.makeFunc fn first cap).run Try.prog w = .ok (.func fn first cap) w := fun _ _ _ _ => rfl
 go_enter Try.func75, Try.ntmps75
 go_wp2
 go_ret
 exact ⟨rfl, rfl⟩
theorem arm_any {w : World} {B b n m1 m2 : Nat} {m : Md} (x y d : Int) (hn : n ≤ 1000000) (hx : (Lit.int .i64 x).wf = true) (hy : (Lit.int .i64 y).wf = true) (h : MdIs w B b n m m1 m2) :
  Calls Try.prog 102 #[pA b, .agg #[.int .i64 x, .int .i64 y], .int .i64 d] w fun r w' => r = .returned (.tuple #[]) ∧ MdIs w' B b (n + 2) (m.arm (x, y) d) m1 m2 ∧ Fr w w' (mdS b m1 m2) := by
 have hu0 := Try.underlying125
 have hu1 := Try.underlying34
 have hu3 := Try.underlying122
 have H := Aside0.mk (h.alloc (.cells #[.int .i64 x, .int .i64 y] 34))
 have HF := Aside0.mk ((Fr.refl w (mdS b m1 m2)).alloc (.cells #[.int .i64 x, .int .i64 y] 34))
 have HO := Aside0.mk (blk_new w (.cells #[.int .i64 x, .int .i64 y] 34))
 have HK := Aside0.mk (keyH x y hx hy)
 have HX := Aside0.mk hx
 have HN := Aside0.mk hn
 clear h hx hy hn
 go_enter Try.func102, Try.ntmps102
 go_wp2
 refine still_tail_at' 7 (by kernel_rfl) (by kernel_rfl) fun w2 hw2 => ?_
 have H2 := Aside0.mk (show MdIs w2 B b n m m1 m2 by rw [hw2]; exact H.out.drew)
 have HF2 := Aside0.mk (show Fr w w2 (mdS b m1 m2) by rw [hw2]; exact HF.out.drew)
 have HO2 := Aside0.mk (show w2.heap[w.heap.size]? = some (.cells #[.int .i64 x, .int .i64 y] 34 (0, 0)) by rw [hw2]; exact HO.out)
 clear hw2 H HF HO
 have hd := fun i => H2.out.cell i
 have hd2 := fun i => blk_cell HO2.out i
 have hlt := H2.out.lt
 have hl2 := blk_lt HO2.out
 simp only [List.take_succ_cons, List.take_zero, List.drop_succ_cons, List.drop_zero]
 repeat still_step
 refine wpStill_nil ?_
 obtain ⟨z1, hz1, hm1⟩ := H2.out.mf
 obtain ⟨kl, hkl⟩ := HK.out
 refine wpl_store ha_inj rfl _ _ _ 123 rfl hm1 lawH Try.underlying123 (by unfold maxLen; have := HN.out; omega) (y := (x, y)) hkl (val := faV (1, d)) rfl rfl rfl ?_
 intro w4 hm4 hg4
 rw [fV_upd] at hm4
 have HM4 := Aside0.mk (H2.out.putF hm4 (by split <;> omega) hg4)
 have HF4 := Aside0.mk (HF2.out.trans ((Fr.of_grown hg4).mono (fun g q => .inr (.inl (Option.some.inj q)))))
 have HO4 := Aside0.mk (blk_grown HO2.out hg4 (fun q => by obtain ⟨_, _, q2⟩ := hm1.block; exact map_ne HO2.out q2 (Option.some.inj q)))
 clear hm4 hg4 hm1 hz1 H2 HF2 HO2 hkl hd hd2 hlt hl2
 go_wp2
 refine still_tail_at' 8 (by kernel_rfl) (by kernel_rfl) fun w5 hw5 => ?_
 have H5 := Aside0.mk (show MdIs w5 B b (n + 1) _ m1 m2 by rw [hw5]; exact HM4.out.drew)
 have HF5 := Aside0.mk (show Fr w w5 (mdS b m1 m2) by rw [hw5]; exact HF4.out.drew)
 have HO5 := Aside0.mk (show w5.heap[w.heap.size]? = some (.cells #[.int .i64 x, .int .i64 y] 34 (0, 0)) by rw [hw5]; exact HO4.out)
 clear hw5 HM4 HF4 HO4
 have hd := fun i => H5.out.cell i
 have hd2 := fun i => blk_cell HO5.out i
 have hlt := H5.out.lt
 have hl2 := blk_lt HO5.out
 simp only [List.take_succ_cons, List.take_zero, List.drop_succ_cons, List.drop_zero]
 repeat still_step
 refine wpStill_nil ?_
 obtain ⟨z2, hz2, hm2⟩ := H5.out.ml
 refine wpl_store int_inj' rfl _ _ _ 95 rfl hm2 lawI Try.underlying95 (by unfold maxLen; have := HN.out; omega) (y := x) (keyOf_int_mk Try.underlying3 HX.out) (val := .int .i64 y) rfl rfl rfl ?_
 intro w6 hm6 hg6
 rw [iV_upd] at hm6
 have HM6 := Aside0.mk (H5.out.putL hm6 (by split <;> omega) hg6)
 have HF6 := Aside0.mk (HF5.out.trans ((Fr.of_grown hg6).mono (fun g q => .inr (.inr (Option.some.inj q)))))
 clear hm6 hg6 hm2 hz2 H5 HF5 HO5 hd hd2
 go_wp2
 go_end0
 exact ⟨rfl, HM6.out, HF6.out⟩
theorem start1_any {w : World} {B b n m1 m2 eb xb : Nat} {m : Md} (e : Ev) (hn : n ≤ 1000000) (hx : (Lit.int .i64 e.nn).wf = true) (hy : (Lit.int .i64 e.ng).wf = true) (h : MdIs w B b n m m1 m2) (he : w.heap[eb]? = some (.cells (evA e) 54 (0, 0))) (hxb : w.heap[xb]? = some (.cells #[pA b] 58 (0, 0))) :
  Calls Try.prog 101 #[pA xb, pA eb] w fun r w' => r = .returned (.tuple #[]) ∧ MdIs w' B b (n + 2) (m.arm e.new e.t) m1 m2 ∧ Fr w w' (mdS b m1 m2) := by
 have hu1 := Try.underlying34
 have hu2 := Try.underlying54
 have CA := Aside0.mk (arm_any e.nn e.ng e.t hn hx hy h)
 have hce := fun i => blk_cell he i
 have hcx := fun i => blk_cell hxb i
 have hle := blk_lt he
 have hlx := blk_lt hxb
 clear h he hxb hx hy hn
 go_enter Try.func101, Try.ntmps101
 go_wp2_with (go_at_call 102; (with_reducible refine CA.out.mono ?_); rintro r w2 ⟨rfl, hm, hf⟩; have HM := Aside0.mk (And.intro hm hf); clear hm hf)
 go_end0
 exact ⟨rfl, HM.out⟩
theorem rearm1_any {w : World} {B b n m1 m2 eb xb : Nat} {m : Md} (e : Ev) (hn : n + 1 ≤ 1000000) (hx : (Lit.int .i64 e.nn).wf = true) (hy : (Lit.int .i64 e.ng).wf = true) (hx' : (Lit.int .i64 e.hn).wf = true) (hy' : (Lit.int .i64 e.hg).wf = true) (h : MdIs w B b n m m1 m2) (he : w.heap[eb]? = some (.cells (evA e) 54 (0, 0))) (hxb : w.heap[xb]? = some (.cells #[pA b] 58 (0, 0))) :
  Calls Try.prog 103 #[pA xb, pA eb] w fun r w' => r = .returned (.tuple #[]) ∧ MdIs w' B b (n + 3) ((m.end_ e.h 4).arm e.new e.t) m1 m2 ∧ Fr w w' (mdS b m1 m2) := by
 have hu1 := Try.underlying34
 have hu2 := Try.underlying54
 have CE := Aside0.mk (fun W => end_any b e.hn e.hg 4 W)
 have H0 := Aside0.mk (show MdIs (((w.alloc (.cells #[pA b] 58)).alloc (.cells #[.int .i64 e.hn, .int .i64 e.hg] 34)).alloc (.cells #[.int .i64 4] 3)) B b n m m1 m2 from ((h.alloc _).alloc _).alloc _)
 have HO := Aside0.mk (show (((w.alloc (.cells #[pA b] 58)).alloc (.cells #[.int .i64 e.hn, .int .i64 e.hg] 34)).alloc (.cells #[.int .i64 4] 3)).heap[w.heap.size + 1 + 1]? = some (.cells #[.int .i64 4] 3 (0, 0)) ∧ (((w.alloc (.cells #[pA b] 58)).alloc (.cells #[.int .i64 e.hn, .int .i64 e.hg] 34)).alloc (.cells #[.int .i64 4] 3)).heap[w.heap.size]? = some (.cells #[pA b] 58 (0, 0)) ∧ (((w.alloc (.cells #[pA b] 58)).alloc (.cells #[.int .i64 e.hn, .int .i64 e.hg] 34)).alloc (.cells #[.int .i64 4] 3)).heap[w.heap.size + 1]? = some (.cells #[.int .i64 e.hn, .int .i64 e.hg] 34 (0, 0)) from
  ⟨by simpa using blk_new ((w.alloc (.cells #[pA b] 58)).alloc (.cells #[.int .i64 e.hn, .int .i64 e.hg] 34)) (.cells #[.int .i64 4] 3), blk_alloc (blk_alloc (blk_new _ _) _) _, blk_alloc (by simpa using blk_new (w.alloc (.cells #[pA b] 58)) (.cells #[.int .i64 e.hn, .int .i64 e.hg] 34)) _⟩)
 have CE1 := Aside0.mk (end1_any 4 e.hn e.hg (by omega) hx' hy' H0.out HO.out.1 HO.out.2.1 HO.out.2.2)
 have CA : Aside0 (∀ W, MdIs W B b (n + 1) (m.end_ e.h 4) m1 m2 → Calls Try.prog 102 #[pA b, .agg #[.int .i64 e.nn, .int .i64 e.ng], .int .i64 e.t] W fun r w' => r = .returned (.tuple #[]) ∧ MdIs w' B b (n + 1 + 2) ((m.end_ e.h 4).arm (e.nn, e.ng) e.t) m1 m2 ∧ Fr W w' (mdS b m1 m2)) := ⟨fun W hW => arm_any e.nn e.ng e.t hn hx hy hW⟩
 have HE := Aside0.mk he
 have HX := Aside0.mk hxb
 have HMD := Aside0.mk h
 have hce := fun i => blk_cell he i
 have hcx := fun i => blk_cell hxb i
 have hle := blk_lt he
 have hlx := blk_lt hxb
 clear h he hxb hx hy hx' hy' hn
 go_enter Try.func103, Try.ntmps103
 go_wp2_with (first
  | (go_at_call 75; (with_reducible refine (CE.out _).mono ?_); rintro r w2 ⟨rfl, rfl⟩)
  | (go_at_call 99; (with_reducible refine CE1.out.mono ?_); rintro r w3 ⟨rfl, hm, hf⟩; have HM := Aside0.mk (And.intro hm (((((Fr.refl w (mdS b m1 m2)).alloc _).alloc _).alloc _).trans hf)); have HE3 := Aside0.mk (HM.out.2.blk HE.out (fun q => by rcases q with q | q | q; exact types_ne HE.out HMD.out.blk (by decide) q; (obtain ⟨z, _, hz⟩ := HMD.out.mf; obtain ⟨_, _, hq⟩ := hz.block; exact map_ne HE.out hq q); (obtain ⟨z, _, hz⟩ := HMD.out.ml; obtain ⟨_, _, hq⟩ := hz.block; exact map_ne HE.out hq q))); have HX3 := Aside0.mk (HM.out.2.blk HX.out (fun q => by rcases q with q | q | q; exact types_ne HX.out HMD.out.blk (by decide) q; (obtain ⟨z, _, hz⟩ := HMD.out.mf; obtain ⟨_, _, hq⟩ := hz.block; exact map_ne HX.out hq q); (obtain ⟨z, _, hz⟩ := HMD.out.ml; obtain ⟨_, _, hq⟩ := hz.block; exact map_ne HX.out hq q))); clear hm hf hce hcx hle hlx; have hce := fun i => blk_cell HE3.out i; have hcx := fun i => blk_cell HX3.out i; have hle := blk_lt HE3.out; have hlx := blk_lt HX3.out)
  | (go_at_call 102; (with_reducible refine (CA.out _ HM.out.1).mono ?_); rintro r w4 ⟨rfl, hm, hf⟩; have HM4 := Aside0.mk (And.intro hm (HM.out.2.trans hf)); clear hm hf))
 go_end0
 exact ⟨rfl, HM4.out⟩
end Go.Proofs.Ythniclbmpeklmaa.Ju
end
section
namespace Go.Proofs.Ythniclbmpeklmaa.Ev
open Go.RowKit Go.Proofs.YthniclbmpeklmaaW.PrintWords Go.Proofs.YthniclbmpeklmaaW.PrintLast Go.Proofs.YthniclbmpeklmaaW.PrintMore
set_option linter.unusedVariables false
set_option linter.unusedSimpArgs false
theorem pick_yes (L : List Int) (op : Int) (b : Nat) (w : World) (hL : L.length ≤ 100) (hc : ∀ j, j < L.length → w.cell? ⟨b, j, none⟩ = some (.int .i64 (L.getD j 0))) (h1 : 1 ≤ op) (h2 : op < L.length) :
  Calls Try.prog 106 #[.slice (some ⟨b, 0, none⟩) L.length L.length, .int .i64 op] w fun e w' => e = .returned (.tuple #[.int .i64 (L.getD op.toNat 0), .bool true]) ∧ w' = w := by
 have c0 := hc op.toNat (by omega)
 have d1 : decide (op < 1) = false := by simp; omega
 have d2 : decide ((L.length : Int) ≤ op) = false := by simp; omega
 obtain ⟨x, hx⟩ : ∃ x, x = L.getD op.toNat 0 := ⟨_, rfl⟩
 rw [← hx] at c0 ⊢
 clear hc hx
 go_enter Try.func106, Try.ntmps106
 go_wp2
 go_ret2
 exact ⟨rfl, rfl⟩
theorem pick_no (L : List Int) (op : Int) (b : Nat) (w : World) (hL : L.length ≤ 100) (h : op < 1 ∨ (L.length : Int) ≤ op) :
  Calls Try.prog 106 #[.slice (some ⟨b, 0, none⟩) L.length L.length, .int .i64 op] w fun e w' => e = .returned (.tuple #[.int .i64 0, .bool false]) ∧ w' = w := by
 by_cases h1 : op < 1
 ·have d1 : decide (op < 1) = true := decide_eq_true h1
  go_enter Try.func106, Try.ntmps106
  go_wp2
  go_ret2
  exact ⟨rfl, rfl⟩
 ·have d1 : decide (op < 1) = false := decide_eq_false h1
  have d2 : decide ((L.length : Int) ≤ op) = true := by simp; omega
  clear h h1
  go_enter Try.func106, Try.ntmps106
  go_wp2
  go_ret2
  exact ⟨rfl, rfl⟩
def pickL (L : List Int) (op : Int) : Int × Bool := if op < 1 ∨ (L.length : Int) ≤ op then (0, false) else (L.getD op.toNat 0, true)
theorem cells_lit (W : World) (L : List Int) (C : Array Value) (t : TypeId) (hC : C = (L.map (Value.int .i64)).toArray) (b : Nat) (hb : b = W.heap.size) : ∀ j, j < L.length → (W.alloc (.cells C t)).cell? ⟨b, j, none⟩ = some (.int .i64 (L.getD j 0)) := by
 subst hC hb
 intro j hj
 rw [World.cell?_alloc_new]
 simp [List.getD_eq_getElem?_getD, hj]
theorem pick_any (L : List Int) (n : Nat) (hn : L.length = n) (op : Int) (b : Nat) (w : World) (hL : L.length ≤ 100) (hc : ∀ j, j < L.length → w.cell? ⟨b, j, none⟩ = some (.int .i64 (L.getD j 0))) :
  Calls Try.prog 106 #[.slice (some ⟨b, 0, none⟩) n n, .int .i64 op] w fun e w' => e = .returned (.tuple #[.int .i64 (pickL L op).1, .bool (pickL L op).2]) ∧ w' = w := by
 subst hn
 unfold pickL
 by_cases h : op < 1 ∨ (L.length : Int) ≤ op
 ·rw [if_pos h]; exact pick_no L op b w hL h
 ·rw [if_neg h]; exact pick_yes L op b w hL hc (by omega) (by omega)
def fieldsF (k wk op er : Int) : Int × Bool :=
 if k = 1 then (4, op == 0 && wk == 0)
 else if k = 4 then (21, op == 0)
 else if k = 2 then pickL [0, 28, 1, 5, 9, 0, 0, 0] op
 else if k = 3 then (if er = 0 then (pickL [0, 70, 33, 71, 65] op).1 else bits BinOp.andNot IntKind.i64 (pickL [0, 70, 33, 71, 65] op).1 6, (pickL [0, 70, 33, 71, 65] op).2)
 else if k = 5 then (if er = 0 then (pickL [0, 66, 32, 66, 64, 0, 4, 4] op).1 else bits BinOp.andNot IntKind.i64 (pickL [0, 66, 32, 66, 64, 0, 4, 4] op).1 2, (pickL [0, 66, 32, 66, 64, 0, 4, 4] op).2)
 else (0, false)
set_option maxHeartbeats 4000000 in
set_option maxRecDepth 100000 in
theorem fields_any (k wk op hn hg nn ng t a u : Int) (y : Bool) (er : Int) (w : World) :
  Calls Try.prog 92 #[.agg (evC k wk op hn hg nn ng t a u y er)] w fun e w' => e = .returned (.tuple #[.int .i64 (fieldsF k wk op er).1, .bool (fieldsF k wk op er).2]) ∧ Below w.heap.size w w' := by
 have hu := Try.underlying54
 have HB := Aside0.mk (Below.refl w.heap.size w)
 unfold fieldsF
 by_cases k1 : k = 1
 ·subst k1
  rw [if_pos rfl]
  cases ho : (op == 0)
  all_goals
   go_enter Try.func92, Try.ntmps92
   go_wp2
   go_quiet (fail)
   go_wp2
   go_ret2
   exact ⟨by simp [*], by repeat (first | exact HB.out | apply below_alloc | apply pw_below_drewN)⟩
 ·rw [if_neg k1]
  have b1 : (k == 1) = false := beq_eq_false_iff_ne.2 k1
  clear k1
  by_cases k4 : k = 4
  ·subst k4
   rw [if_pos rfl]
   go_enter Try.func92, Try.ntmps92
   go_wp2
   go_ret2
   exact ⟨by simp [*], by repeat (first | exact HB.out | apply below_alloc | apply pw_below_drewN)⟩
  ·rw [if_neg k4]
   have b4 : (k == 4) = false := beq_eq_false_iff_ne.2 k4
   clear k4
   by_cases k2 : k = 2
   ·subst k2
    rw [if_pos rfl]
    go_enter Try.func92, Try.ntmps92
    go_wp2_with (go_at_call 106; (with_reducible refine (pick_any [0, 28, 1, 5, 9, 0, 0, 0] 8 rfl _ _ _ (by decide) (cells_lit _ [0, 28, 1, 5, 9, 0, 0, 0] _ _ ?c1 _ ?c2)).mono ?_); (case c1 => rfl); (case c2 => simp); rintro e w1 ⟨rfl, rfl⟩)
    go_ret2
    exact ⟨by simp [*], by repeat (first | exact HB.out | apply below_alloc | apply pw_below_drewN)⟩
   ·rw [if_neg k2]
    have b2 : (k == 2) = false := beq_eq_false_iff_ne.2 k2
    clear k2
    by_cases k3 : k = 3
    ·subst k3
     rw [if_pos rfl]
     cases he : (er == 0)
     ·rw [if_neg (beq_eq_false_iff_ne.1 he)]
      have he2 : (er != 0) = true := by simp [bne, he]
      go_enter Try.func92, Try.ntmps92
      go_wp2_with (go_at_call 106; (with_reducible refine (pick_any [0, 70, 33, 71, 65] 5 rfl _ _ _ (by decide) (cells_lit _ [0, 70, 33, 71, 65] _ _ ?c1 _ ?c2)).mono ?_); (case c1 => rfl); (case c2 => simp); rintro e w1 ⟨rfl, rfl⟩)
      go_ret2
      exact ⟨by simp [*], by repeat (first | exact HB.out | apply below_alloc | apply pw_below_drewN)⟩
     ·rw [if_pos (beq_iff_eq.1 he)]
      have he2 : (er != 0) = false := by simp [bne, he]
      go_enter Try.func92, Try.ntmps92
      go_wp2_with (go_at_call 106; (with_reducible refine (pick_any [0, 70, 33, 71, 65] 5 rfl _ _ _ (by decide) (cells_lit _ [0, 70, 33, 71, 65] _ _ ?c1 _ ?c2)).mono ?_); (case c1 => rfl); (case c2 => simp); rintro e w1 ⟨rfl, rfl⟩)
      go_ret2
      exact ⟨by simp [*], by repeat (first | exact HB.out | apply below_alloc | apply pw_below_drewN)⟩
    ·rw [if_neg k3]
     have b3 : (k == 3) = false := beq_eq_false_iff_ne.2 k3
     clear k3
     by_cases k5 : k = 5
     ·subst k5
      rw [if_pos rfl]
      cases he : (er == 0)
      ·rw [if_neg (beq_eq_false_iff_ne.1 he)]
       have he2 : (er != 0) = true := by simp [bne, he]
       go_enter Try.func92, Try.ntmps92
       go_wp2_with (go_at_call 106; (with_reducible refine (pick_any [0, 66, 32, 66, 64, 0, 4, 4] 8 rfl _ _ _ (by decide) (cells_lit _ [0, 66, 32, 66, 64, 0, 4, 4] _ _ ?c1 _ ?c2)).mono ?_); (case c1 => rfl); (case c2 => simp); rintro e w1 ⟨rfl, rfl⟩)
       go_ret2
       exact ⟨by simp [*], by repeat (first | exact HB.out | apply below_alloc | apply pw_below_drewN)⟩
      ·rw [if_pos (beq_iff_eq.1 he)]
       have he2 : (er != 0) = false := by simp [bne, he]
       go_enter Try.func92, Try.ntmps92
       go_wp2_with (go_at_call 106; (with_reducible refine (pick_any [0, 66, 32, 66, 64, 0, 4, 4] 8 rfl _ _ _ (by decide) (cells_lit _ [0, 66, 32, 66, 64, 0, 4, 4] _ _ ?c1 _ ?c2)).mono ?_); (case c1 => rfl); (case c2 => simp); rintro e w1 ⟨rfl, rfl⟩)
       go_ret2
       exact ⟨by simp [*], by repeat (first | exact HB.out | apply below_alloc | apply pw_below_drewN)⟩
     ·rw [if_neg k5]
      have b5 : (k == 5) = false := beq_eq_false_iff_ne.2 k5
      clear k5
      go_enter Try.func92, Try.ntmps92
      go_wp2
      go_ret2
      exact ⟨by simp [*], by repeat (first | exact HB.out | apply below_alloc | apply pw_below_drewN)⟩
end Go.Proofs.Ythniclbmpeklmaa.Ev
end
section
set_option maxHeartbeats 4000000
set_option maxRecDepth 100000
namespace Go.Proofs.Ythniclbmpeklmaa.Ev
open Go.RowKit Go.Proofs.YthniclbmpeklmaaW.PrintWords Go.Proofs.YthniclbmpeklmaaW.PrintLast Go.Proofs.YthniclbmpeklmaaW.PrintMore
set_option linter.unusedVariables false
set_option linter.unusedSimpArgs false
theorem bare_0 (k wk op hn hg nn ng t a u : Int) (y : Bool) (er : Int) (w : World) :
  Calls Try.prog 94 #[.agg (evC k wk op hn hg nn ng t a u y er), .int .i64 0] w fun e w' => e = .returned (.agg (evC k wk op hn hg nn ng t a u y er)) ∧ Below w.heap.size w w' := by
 have hu := Try.underlying54
 have hu2 := Try.underlying34
 have b1 : bits BinOp.and IntKind.i64 0 1 = 0 := by decide
 have b2 : bits BinOp.and IntKind.i64 0 2 = 0 := by decide
 have b4 : bits BinOp.and IntKind.i64 0 4 = 0 := by decide
 have b8 : bits BinOp.and IntKind.i64 0 8 = 0 := by decide
 have b16 : bits BinOp.and IntKind.i64 0 16 = 0 := by decide
 have b32 : bits BinOp.and IntKind.i64 0 32 = 0 := by decide
 have b64 : bits BinOp.and IntKind.i64 0 64 = 0 := by decide
 have HB := Aside0.mk (Below.refl w.heap.size w)
 cases y
 all_goals
  go_enter Try.func94, Try.ntmps94
  go_wp2
  go_rounds 4
  refine bodyPost_ret (v := .agg (evC k wk op hn hg nn ng t a u _ er)) (by simp [results, Try.results94, go_sem]) rfl ⟨rfl, ?_⟩
  repeat (first | exact HB.out | apply below_alloc | apply pw_below_drewN | refine Below.setCell ?_ (by simp) _)
theorem bare_1 (k wk op hn hg nn ng t a u : Int) (y : Bool) (er : Int) (w : World) :
  Calls Try.prog 94 #[.agg (evC k wk op hn hg nn ng t a u y er), .int .i64 1] w fun e w' => e = .returned (.agg (evC k wk op 0 0 nn ng t a u y er)) ∧ Below w.heap.size w w' := by
 have hu := Try.underlying54
 have hu2 := Try.underlying34
 have b1 : bits BinOp.and IntKind.i64 1 1 = 1 := by decide
 have b2 : bits BinOp.and IntKind.i64 1 2 = 0 := by decide
 have b4 : bits BinOp.and IntKind.i64 1 4 = 0 := by decide
 have b8 : bits BinOp.and IntKind.i64 1 8 = 0 := by decide
 have b16 : bits BinOp.and IntKind.i64 1 16 = 0 := by decide
 have b32 : bits BinOp.and IntKind.i64 1 32 = 0 := by decide
 have b64 : bits BinOp.and IntKind.i64 1 64 = 0 := by decide
 have HB := Aside0.mk (Below.refl w.heap.size w)
 cases y
 all_goals
  go_enter Try.func94, Try.ntmps94
  go_wp2
  go_rounds 4
  refine bodyPost_ret (v := .agg (evC k wk op 0 0 nn ng t a u _ er)) (by simp [results, Try.results94, go_sem]) rfl ⟨rfl, ?_⟩
  repeat (first | exact HB.out | apply below_alloc | apply pw_below_drewN | refine Below.setCell ?_ (by simp) _)
theorem bare_4 (k wk op hn hg nn ng t a u : Int) (y : Bool) (er : Int) (w : World) :
  Calls Try.prog 94 #[.agg (evC k wk op hn hg nn ng t a u y er), .int .i64 4] w fun e w' => e = .returned (.agg (evC k wk op hn hg nn ng 0 a u y er)) ∧ Below w.heap.size w w' := by
 have hu := Try.underlying54
 have hu2 := Try.underlying34
 have b1 : bits BinOp.and IntKind.i64 4 1 = 0 := by decide
 have b2 : bits BinOp.and IntKind.i64 4 2 = 0 := by decide
 have b4 : bits BinOp.and IntKind.i64 4 4 = 4 := by decide
 have b8 : bits BinOp.and IntKind.i64 4 8 = 0 := by decide
 have b16 : bits BinOp.and IntKind.i64 4 16 = 0 := by decide
 have b32 : bits BinOp.and IntKind.i64 4 32 = 0 := by decide
 have b64 : bits BinOp.and IntKind.i64 4 64 = 0 := by decide
 have HB := Aside0.mk (Below.refl w.heap.size w)
 cases y
 all_goals
  go_enter Try.func94, Try.ntmps94
  go_wp2
  go_rounds 4
  refine bodyPost_ret (v := .agg (evC k wk op hn hg nn ng 0 a u _ er)) (by simp [results, Try.results94, go_sem]) rfl ⟨rfl, ?_⟩
  repeat (first | exact HB.out | apply below_alloc | apply pw_below_drewN | refine Below.setCell ?_ (by simp) _)
theorem bare_5 (k wk op hn hg nn ng t a u : Int) (y : Bool) (er : Int) (w : World) :
  Calls Try.prog 94 #[.agg (evC k wk op hn hg nn ng t a u y er), .int .i64 5] w fun e w' => e = .returned (.agg (evC k wk op 0 0 nn ng 0 a u y er)) ∧ Below w.heap.size w w' := by
 have hu := Try.underlying54
 have hu2 := Try.underlying34
 have b1 : bits BinOp.and IntKind.i64 5 1 = 1 := by decide
 have b2 : bits BinOp.and IntKind.i64 5 2 = 0 := by decide
 have b4 : bits BinOp.and IntKind.i64 5 4 = 4 := by decide
 have b8 : bits BinOp.and IntKind.i64 5 8 = 0 := by decide
 have b16 : bits BinOp.and IntKind.i64 5 16 = 0 := by decide
 have b32 : bits BinOp.and IntKind.i64 5 32 = 0 := by decide
 have b64 : bits BinOp.and IntKind.i64 5 64 = 0 := by decide
 have HB := Aside0.mk (Below.refl w.heap.size w)
 cases y
 all_goals
  go_enter Try.func94, Try.ntmps94
  go_wp2
  go_rounds 4
  refine bodyPost_ret (v := .agg (evC k wk op 0 0 nn ng 0 a u _ er)) (by simp [results, Try.results94, go_sem]) rfl ⟨rfl, ?_⟩
  repeat (first | exact HB.out | apply below_alloc | apply pw_below_drewN | refine Below.setCell ?_ (by simp) _)
theorem bare_9 (k wk op hn hg nn ng t a u : Int) (y : Bool) (er : Int) (w : World) :
  Calls Try.prog 94 #[.agg (evC k wk op hn hg nn ng t a u y er), .int .i64 9] w fun e w' => e = .returned (.agg (evC k wk op 0 0 nn ng t 0 u y er)) ∧ Below w.heap.size w w' := by
 have hu := Try.underlying54
 have hu2 := Try.underlying34
 have b1 : bits BinOp.and IntKind.i64 9 1 = 1 := by decide
 have b2 : bits BinOp.and IntKind.i64 9 2 = 0 := by decide
 have b4 : bits BinOp.and IntKind.i64 9 4 = 0 := by decide
 have b8 : bits BinOp.and IntKind.i64 9 8 = 8 := by decide
 have b16 : bits BinOp.and IntKind.i64 9 16 = 0 := by decide
 have b32 : bits BinOp.and IntKind.i64 9 32 = 0 := by decide
 have b64 : bits BinOp.and IntKind.i64 9 64 = 0 := by decide
 have HB := Aside0.mk (Below.refl w.heap.size w)
 cases y
 all_goals
  go_enter Try.func94, Try.ntmps94
  go_wp2
  go_rounds 4
  refine bodyPost_ret (v := .agg (evC k wk op 0 0 nn ng t 0 u _ er)) (by simp [results, Try.results94, go_sem]) rfl ⟨rfl, ?_⟩
  repeat (first | exact HB.out | apply below_alloc | apply pw_below_drewN | refine Below.setCell ?_ (by simp) _)
theorem bare_21 (k wk op hn hg nn ng t a u : Int) (y : Bool) (er : Int) (w : World) :
  Calls Try.prog 94 #[.agg (evC k wk op hn hg nn ng t a u y er), .int .i64 21] w fun e w' => e = .returned (.agg (evC k wk op 0 0 nn ng 0 a 0 y er)) ∧ Below w.heap.size w w' := by
 have hu := Try.underlying54
 have hu2 := Try.underlying34
 have b1 : bits BinOp.and IntKind.i64 21 1 = 1 := by decide
 have b2 : bits BinOp.and IntKind.i64 21 2 = 0 := by decide
 have b4 : bits BinOp.and IntKind.i64 21 4 = 4 := by decide
 have b8 : bits BinOp.and IntKind.i64 21 8 = 0 := by decide
 have b16 : bits BinOp.and IntKind.i64 21 16 = 16 := by decide
 have b32 : bits BinOp.and IntKind.i64 21 32 = 0 := by decide
 have b64 : bits BinOp.and IntKind.i64 21 64 = 0 := by decide
 have HB := Aside0.mk (Below.refl w.heap.size w)
 cases y
 all_goals
  go_enter Try.func94, Try.ntmps94
  go_wp2
  go_rounds 4
  refine bodyPost_ret (v := .agg (evC k wk op 0 0 nn ng 0 a 0 _ er)) (by simp [results, Try.results94, go_sem]) rfl ⟨rfl, ?_⟩
  repeat (first | exact HB.out | apply below_alloc | apply pw_below_drewN | refine Below.setCell ?_ (by simp) _)
theorem bare_28 (k wk op hn hg nn ng t a u : Int) (y : Bool) (er : Int) (w : World) :
  Calls Try.prog 94 #[.agg (evC k wk op hn hg nn ng t a u y er), .int .i64 28] w fun e w' => e = .returned (.agg (evC k wk op hn hg nn ng 0 0 0 y er)) ∧ Below w.heap.size w w' := by
 have hu := Try.underlying54
 have hu2 := Try.underlying34
 have b1 : bits BinOp.and IntKind.i64 28 1 = 0 := by decide
 have b2 : bits BinOp.and IntKind.i64 28 2 = 0 := by decide
 have b4 : bits BinOp.and IntKind.i64 28 4 = 4 := by decide
 have b8 : bits BinOp.and IntKind.i64 28 8 = 8 := by decide
 have b16 : bits BinOp.and IntKind.i64 28 16 = 16 := by decide
 have b32 : bits BinOp.and IntKind.i64 28 32 = 0 := by decide
 have b64 : bits BinOp.and IntKind.i64 28 64 = 0 := by decide
 have HB := Aside0.mk (Below.refl w.heap.size w)
 cases y
 all_goals
  go_enter Try.func94, Try.ntmps94
  go_wp2
  go_rounds 4
  refine bodyPost_ret (v := .agg (evC k wk op hn hg nn ng 0 0 0 _ er)) (by simp [results, Try.results94, go_sem]) rfl ⟨rfl, ?_⟩
  repeat (first | exact HB.out | apply below_alloc | apply pw_below_drewN | refine Below.setCell ?_ (by simp) _)
theorem bare_32 (k wk op hn hg nn ng t a u : Int) (y : Bool) (er : Int) (w : World) :
  Calls Try.prog 94 #[.agg (evC k wk op hn hg nn ng t a u y er), .int .i64 32] w fun e w' => e = .returned (.agg (evC k wk op hn hg nn ng t a u false er)) ∧ Below w.heap.size w w' := by
 have hu := Try.underlying54
 have hu2 := Try.underlying34
 have b1 : bits BinOp.and IntKind.i64 32 1 = 0 := by decide
 have b2 : bits BinOp.and IntKind.i64 32 2 = 0 := by decide
 have b4 : bits BinOp.and IntKind.i64 32 4 = 0 := by decide
 have b8 : bits BinOp.and IntKind.i64 32 8 = 0 := by decide
 have b16 : bits BinOp.and IntKind.i64 32 16 = 0 := by decide
 have b32 : bits BinOp.and IntKind.i64 32 32 = 32 := by decide
 have b64 : bits BinOp.and IntKind.i64 32 64 = 0 := by decide
 have HB := Aside0.mk (Below.refl w.heap.size w)
 cases y
 all_goals
  go_enter Try.func94, Try.ntmps94
  go_wp2
  go_rounds 4
  refine bodyPost_ret (v := .agg (evC k wk op hn hg nn ng t a u _ er)) (by simp [results, Try.results94, go_sem]) rfl ⟨rfl, ?_⟩
  repeat (first | exact HB.out | apply below_alloc | apply pw_below_drewN | refine Below.setCell ?_ (by simp) _)
theorem bare_33 (k wk op hn hg nn ng t a u : Int) (y : Bool) (er : Int) (w : World) :
  Calls Try.prog 94 #[.agg (evC k wk op hn hg nn ng t a u y er), .int .i64 33] w fun e w' => e = .returned (.agg (evC k wk op 0 0 nn ng t a u false er)) ∧ Below w.heap.size w w' := by
 have hu := Try.underlying54
 have hu2 := Try.underlying34
 have b1 : bits BinOp.and IntKind.i64 33 1 = 1 := by decide
 have b2 : bits BinOp.and IntKind.i64 33 2 = 0 := by decide
 have b4 : bits BinOp.and IntKind.i64 33 4 = 0 := by decide
 have b8 : bits BinOp.and IntKind.i64 33 8 = 0 := by decide
 have b16 : bits BinOp.and IntKind.i64 33 16 = 0 := by decide
 have b32 : bits BinOp.and IntKind.i64 33 32 = 32 := by decide
 have b64 : bits BinOp.and IntKind.i64 33 64 = 0 := by decide
 have HB := Aside0.mk (Below.refl w.heap.size w)
 cases y
 all_goals
  go_enter Try.func94, Try.ntmps94
  go_wp2
  go_rounds 4
  refine bodyPost_ret (v := .agg (evC k wk op 0 0 nn ng t a u _ er)) (by simp [results, Try.results94, go_sem]) rfl ⟨rfl, ?_⟩
  repeat (first | exact HB.out | apply below_alloc | apply pw_below_drewN | refine Below.setCell ?_ (by simp) _)
theorem bare_64 (k wk op hn hg nn ng t a u : Int) (y : Bool) (er : Int) (w : World) :
  Calls Try.prog 94 #[.agg (evC k wk op hn hg nn ng t a u y er), .int .i64 64] w fun e w' => e = .returned (.agg (evC k wk op hn hg nn ng t a u y 0)) ∧ Below w.heap.size w w' := by
 have hu := Try.underlying54
 have hu2 := Try.underlying34
 have b1 : bits BinOp.and IntKind.i64 64 1 = 0 := by decide
 have b2 : bits BinOp.and IntKind.i64 64 2 = 0 := by decide
 have b4 : bits BinOp.and IntKind.i64 64 4 = 0 := by decide
 have b8 : bits BinOp.and IntKind.i64 64 8 = 0 := by decide
 have b16 : bits BinOp.and IntKind.i64 64 16 = 0 := by decide
 have b32 : bits BinOp.and IntKind.i64 64 32 = 0 := by decide
 have b64 : bits BinOp.and IntKind.i64 64 64 = 64 := by decide
 have HB := Aside0.mk (Below.refl w.heap.size w)
 cases y
 all_goals
  go_enter Try.func94, Try.ntmps94
  go_wp2
  go_rounds 4
  refine bodyPost_ret (v := .agg (evC k wk op hn hg nn ng t a u _ 0)) (by simp [results, Try.results94, go_sem]) rfl ⟨rfl, ?_⟩
  repeat (first | exact HB.out | apply below_alloc | apply pw_below_drewN | refine Below.setCell ?_ (by simp) _)
theorem bare_65 (k wk op hn hg nn ng t a u : Int) (y : Bool) (er : Int) (w : World) :
  Calls Try.prog 94 #[.agg (evC k wk op hn hg nn ng t a u y er), .int .i64 65] w fun e w' => e = .returned (.agg (evC k wk op 0 0 nn ng t a u y 0)) ∧ Below w.heap.size w w' := by
 have hu := Try.underlying54
 have hu2 := Try.underlying34
 have b1 : bits BinOp.and IntKind.i64 65 1 = 1 := by decide
 have b2 : bits BinOp.and IntKind.i64 65 2 = 0 := by decide
 have b4 : bits BinOp.and IntKind.i64 65 4 = 0 := by decide
 have b8 : bits BinOp.and IntKind.i64 65 8 = 0 := by decide
 have b16 : bits BinOp.and IntKind.i64 65 16 = 0 := by decide
 have b32 : bits BinOp.and IntKind.i64 65 32 = 0 := by decide
 have b64 : bits BinOp.and IntKind.i64 65 64 = 64 := by decide
 have HB := Aside0.mk (Below.refl w.heap.size w)
 cases y
 all_goals
  go_enter Try.func94, Try.ntmps94
  go_wp2
  go_rounds 4
  refine bodyPost_ret (v := .agg (evC k wk op 0 0 nn ng t a u _ 0)) (by simp [results, Try.results94, go_sem]) rfl ⟨rfl, ?_⟩
  repeat (first | exact HB.out | apply below_alloc | apply pw_below_drewN | refine Below.setCell ?_ (by simp) _)
theorem bare_66 (k wk op hn hg nn ng t a u : Int) (y : Bool) (er : Int) (w : World) :
  Calls Try.prog 94 #[.agg (evC k wk op hn hg nn ng t a u y er), .int .i64 66] w fun e w' => e = .returned (.agg (evC k wk op hn hg 0 0 t a u y 0)) ∧ Below w.heap.size w w' := by
 have hu := Try.underlying54
 have hu2 := Try.underlying34
 have b1 : bits BinOp.and IntKind.i64 66 1 = 0 := by decide
 have b2 : bits BinOp.and IntKind.i64 66 2 = 2 := by decide
 have b4 : bits BinOp.and IntKind.i64 66 4 = 0 := by decide
 have b8 : bits BinOp.and IntKind.i64 66 8 = 0 := by decide
 have b16 : bits BinOp.and IntKind.i64 66 16 = 0 := by decide
 have b32 : bits BinOp.and IntKind.i64 66 32 = 0 := by decide
 have b64 : bits BinOp.and IntKind.i64 66 64 = 64 := by decide
 have HB := Aside0.mk (Below.refl w.heap.size w)
 cases y
 all_goals
  go_enter Try.func94, Try.ntmps94
  go_wp2
  go_rounds 4
  refine bodyPost_ret (v := .agg (evC k wk op hn hg 0 0 t a u _ 0)) (by simp [results, Try.results94, go_sem]) rfl ⟨rfl, ?_⟩
  repeat (first | exact HB.out | apply below_alloc | apply pw_below_drewN | refine Below.setCell ?_ (by simp) _)
theorem bare_70 (k wk op hn hg nn ng t a u : Int) (y : Bool) (er : Int) (w : World) :
  Calls Try.prog 94 #[.agg (evC k wk op hn hg nn ng t a u y er), .int .i64 70] w fun e w' => e = .returned (.agg (evC k wk op hn hg 0 0 0 a u y 0)) ∧ Below w.heap.size w w' := by
 have hu := Try.underlying54
 have hu2 := Try.underlying34
 have b1 : bits BinOp.and IntKind.i64 70 1 = 0 := by decide
 have b2 : bits BinOp.and IntKind.i64 70 2 = 2 := by decide
 have b4 : bits BinOp.and IntKind.i64 70 4 = 4 := by decide
 have b8 : bits BinOp.and IntKind.i64 70 8 = 0 := by decide
 have b16 : bits BinOp.and IntKind.i64 70 16 = 0 := by decide
 have b32 : bits BinOp.and IntKind.i64 70 32 = 0 := by decide
 have b64 : bits BinOp.and IntKind.i64 70 64 = 64 := by decide
 have HB := Aside0.mk (Below.refl w.heap.size w)
 cases y
 all_goals
  go_enter Try.func94, Try.ntmps94
  go_wp2
  go_rounds 4
  refine bodyPost_ret (v := .agg (evC k wk op hn hg 0 0 0 a u _ 0)) (by simp [results, Try.results94, go_sem]) rfl ⟨rfl, ?_⟩
  repeat (first | exact HB.out | apply below_alloc | apply pw_below_drewN | refine Below.setCell ?_ (by simp) _)
theorem bare_71 (k wk op hn hg nn ng t a u : Int) (y : Bool) (er : Int) (w : World) :
  Calls Try.prog 94 #[.agg (evC k wk op hn hg nn ng t a u y er), .int .i64 71] w fun e w' => e = .returned (.agg (evC k wk op 0 0 0 0 0 a u y 0)) ∧ Below w.heap.size w w' := by
 have hu := Try.underlying54
 have hu2 := Try.underlying34
 have b1 : bits BinOp.and IntKind.i64 71 1 = 1 := by decide
 have b2 : bits BinOp.and IntKind.i64 71 2 = 2 := by decide
 have b4 : bits BinOp.and IntKind.i64 71 4 = 4 := by decide
 have b8 : bits BinOp.and IntKind.i64 71 8 = 0 := by decide
 have b16 : bits BinOp.and IntKind.i64 71 16 = 0 := by decide
 have b32 : bits BinOp.and IntKind.i64 71 32 = 0 := by decide
 have b64 : bits BinOp.and IntKind.i64 71 64 = 64 := by decide
 have HB := Aside0.mk (Below.refl w.heap.size w)
 cases y
 all_goals
  go_enter Try.func94, Try.ntmps94
  go_wp2
  go_rounds 4
  refine bodyPost_ret (v := .agg (evC k wk op 0 0 0 0 0 a u _ 0)) (by simp [results, Try.results94, go_sem]) rfl ⟨rfl, ?_⟩
  repeat (first | exact HB.out | apply below_alloc | apply pw_below_drewN | refine Below.setCell ?_ (by simp) _)
end Go.Proofs.Ythniclbmpeklmaa.Ev
end
section
namespace Go.Proofs.Ythniclbmpeklmaa.Ev
open Go.RowKit Go.Proofs.YthniclbmpeklmaaW.PrintWords Go.Proofs.YthniclbmpeklmaaW.PrintLast Go.Proofs.YthniclbmpeklmaaW.PrintMore
attribute [local go_sem] max2_int min2_int max_two min_two max_three min_three max_four min_four
set_option linter.unusedVariables false
set_option linter.unusedSimpArgs false
def countedB (k hn hg nn ng t a u : Int) : Bool :=
 (k == 3 || (decide (0 ≤ hn) && decide (0 ≤ hg))) && (decide (0 ≤ nn) && decide (0 ≤ ng) && decide (0 ≤ a) && decide (0 ≤ u) && (if k = 5 then decide (-1 ≤ t) else decide (0 ≤ t)))
theorem counted_eq (k hn hg nn ng t a u m m1 m2 m3 : Int) (e : (if hg < hn then hg else hn) = m) (e1 : (if ng < nn then ng else nn) = m1) (e2 : (if a < m1 then a else m1) = m2) (e3 : (if u < m2 then u else m2) = m3) :
  countedB k hn hg nn ng t a u = ((k == 3 || decide (0 ≤ m)) && (decide (0 ≤ m3) && (if k = 5 then decide (-1 ≤ t) else decide (0 ≤ t)))) := by
 have h1 : decide (0 ≤ m) = (decide (0 ≤ hn) && decide (0 ≤ hg)) := by
  rw [Bool.eq_iff_iff]
  simp
  split at e <;> omega
 have h3 : decide (0 ≤ m3) = (decide (0 ≤ nn) && decide (0 ≤ ng) && decide (0 ≤ a) && decide (0 ≤ u)) := by
  rw [Bool.eq_iff_iff]
  simp
  split at e1 <;> split at e2 <;> split at e3 <;> omega
 rw [h1, h3, countedB]
set_option maxHeartbeats 4000000 in
set_option maxRecDepth 100000 in
theorem counted_any (k wk op hn hg nn ng t a u : Int) (y : Bool) (er : Int) (w : World) :
  Calls Try.prog 93 #[.agg (evC k wk op hn hg nn ng t a u y er)] w fun e w' => e = .returned (.bool (countedB k hn hg nn ng t a u)) ∧ Below w.heap.size w w' := by
 have hu := Try.underlying54
 have HB := Aside0.mk (Below.refl w.heap.size w)
 obtain ⟨m, e⟩ : ∃ m, (if hg < hn then hg else hn) = m := ⟨_, rfl⟩
 obtain ⟨m1, e1⟩ : ∃ m, (if ng < nn then ng else nn) = m := ⟨_, rfl⟩
 obtain ⟨m2, e2⟩ : ∃ m, (if a < m1 then a else m1) = m := ⟨_, rfl⟩
 obtain ⟨m3, e3⟩ : ∃ m, (if u < m2 then u else m2) = m := ⟨_, rfl⟩
 rw [counted_eq k hn hg nn ng t a u m m1 m2 m3 e e1 e2 e3]
 by_cases k3 : k = 3
 ·subst k3
  go_enter Try.func93, Try.ntmps93
  go_wp2
  all_goals
   go_ret
   exact ⟨by simp [*] <;> omega, by repeat (first | exact HB.out | apply below_alloc | apply pw_below_drewN)⟩
 ·have b3 : (k != 3) = true := bne_iff_ne.2 k3
  have b3' : (k == 3) = false := beq_eq_false_iff_ne.2 k3
  by_cases k5 : k = 5
  ·subst k5
   clear k3
   go_enter Try.func93, Try.ntmps93
   go_wp2
   all_goals
    go_ret
    exact ⟨by simp [*] <;> omega, by repeat (first | exact HB.out | apply below_alloc | apply pw_below_drewN)⟩
  ·have b5 : (k == 5) = false := beq_eq_false_iff_ne.2 k5
   rw [if_neg k5]
   clear k3 k5
   go_enter Try.func93, Try.ntmps93
   go_wp2
   all_goals
    go_ret
    exact ⟨by simp [*] <;> omega, by repeat (first | exact HB.out | apply below_alloc | apply pw_below_drewN)⟩
end Go.Proofs.Ythniclbmpeklmaa.Ev
end
section
namespace Go.Proofs.Ythniclbmpeklmaa.Ev
open Go.RowKit Go.Proofs.YthniclbmpeklmaaW.PrintWords Go.Proofs.YthniclbmpeklmaaW.PrintLast Go.Proofs.YthniclbmpeklmaaW.PrintMore
set_option linter.unusedVariables false
set_option linter.unusedSimpArgs false
def zb (f b x : Int) : Int := if bits BinOp.and IntKind.i64 f b = 0 then x else 0
def zy (f : Int) (y : Bool) : Bool := y && bits BinOp.and IntKind.i64 f 32 == 0
def fset : List Int := [0, 1, 4, 5, 9, 21, 28, 32, 33, 64, 65, 66, 70, 71]
theorem bare_any (k wk op hn hg nn ng t a u : Int) (y : Bool) (er : Int) (f : Int) (hf : f ∈ fset) (w : World) :
  Calls Try.prog 94 #[.agg (evC k wk op hn hg nn ng t a u y er), .int .i64 f] w fun e w' => e = .returned (.agg (evC k wk op (zb f 1 hn) (zb f 1 hg) (zb f 2 nn) (zb f 2 ng) (zb f 4 t) (zb f 8 a) (zb f 16 u) (zy f y) (zb f 64 er))) ∧ Below w.heap.size w w' := by
 simp only [fset, List.mem_cons, List.not_mem_nil, or_false] at hf
 rcases hf with rfl | rfl | rfl | rfl | rfl | rfl | rfl | rfl | rfl | rfl | rfl | rfl | rfl | rfl
 ·simpa only [zb, zy, show bits BinOp.and IntKind.i64 0 1 = 0 from by decide, show bits BinOp.and IntKind.i64 0 2 = 0 from by decide, show bits BinOp.and IntKind.i64 0 4 = 0 from by decide, show bits BinOp.and IntKind.i64 0 8 = 0 from by decide, show bits BinOp.and IntKind.i64 0 16 = 0 from by decide, show bits BinOp.and IntKind.i64 0 32 = 0 from by decide, show bits BinOp.and IntKind.i64 0 64 = 0 from by decide, if_true, show ¬ ((1 : Int) = 0) from by decide, show ¬ ((2 : Int) = 0) from by decide, show ¬ ((4 : Int) = 0) from by decide, show ¬ ((8 : Int) = 0) from by decide, show ¬ ((16 : Int) = 0) from by decide, show ¬ ((64 : Int) = 0) from by decide, if_false, show ((32 : Int) == 0) = false from by decide, show ((0 : Int) == 0) = true from by decide, Bool.and_true, Bool.and_false] using bare_0 k wk op hn hg nn ng t a u y er w
 ·simpa only [zb, zy, show bits BinOp.and IntKind.i64 1 1 = 1 from by decide, show bits BinOp.and IntKind.i64 1 2 = 0 from by decide, show bits BinOp.and IntKind.i64 1 4 = 0 from by decide, show bits BinOp.and IntKind.i64 1 8 = 0 from by decide, show bits BinOp.and IntKind.i64 1 16 = 0 from by decide, show bits BinOp.and IntKind.i64 1 32 = 0 from by decide, show bits BinOp.and IntKind.i64 1 64 = 0 from by decide, if_true, show ¬ ((1 : Int) = 0) from by decide, show ¬ ((2 : Int) = 0) from by decide, show ¬ ((4 : Int) = 0) from by decide, show ¬ ((8 : Int) = 0) from by decide, show ¬ ((16 : Int) = 0) from by decide, show ¬ ((64 : Int) = 0) from by decide, if_false, show ((32 : Int) == 0) = false from by decide, show ((0 : Int) == 0) = true from by decide, Bool.and_true, Bool.and_false] using bare_1 k wk op hn hg nn ng t a u y er w
 ·simpa only [zb, zy, show bits BinOp.and IntKind.i64 4 1 = 0 from by decide, show bits BinOp.and IntKind.i64 4 2 = 0 from by decide, show bits BinOp.and IntKind.i64 4 4 = 4 from by decide, show bits BinOp.and IntKind.i64 4 8 = 0 from by decide, show bits BinOp.and IntKind.i64 4 16 = 0 from by decide, show bits BinOp.and IntKind.i64 4 32 = 0 from by decide, show bits BinOp.and IntKind.i64 4 64 = 0 from by decide, if_true, show ¬ ((1 : Int) = 0) from by decide, show ¬ ((2 : Int) = 0) from by decide, show ¬ ((4 : Int) = 0) from by decide, show ¬ ((8 : Int) = 0) from by decide, show ¬ ((16 : Int) = 0) from by decide, show ¬ ((64 : Int) = 0) from by decide, if_false, show ((32 : Int) == 0) = false from by decide, show ((0 : Int) == 0) = true from by decide, Bool.and_true, Bool.and_false] using bare_4 k wk op hn hg nn ng t a u y er w
 ·simpa only [zb, zy, show bits BinOp.and IntKind.i64 5 1 = 1 from by decide, show bits BinOp.and IntKind.i64 5 2 = 0 from by decide, show bits BinOp.and IntKind.i64 5 4 = 4 from by decide, show bits BinOp.and IntKind.i64 5 8 = 0 from by decide, show bits BinOp.and IntKind.i64 5 16 = 0 from by decide, show bits BinOp.and IntKind.i64 5 32 = 0 from by decide, show bits BinOp.and IntKind.i64 5 64 = 0 from by decide, if_true, show ¬ ((1 : Int) = 0) from by decide, show ¬ ((2 : Int) = 0) from by decide, show ¬ ((4 : Int) = 0) from by decide, show ¬ ((8 : Int) = 0) from by decide, show ¬ ((16 : Int) = 0) from by decide, show ¬ ((64 : Int) = 0) from by decide, if_false, show ((32 : Int) == 0) = false from by decide, show ((0 : Int) == 0) = true from by decide, Bool.and_true, Bool.and_false] using bare_5 k wk op hn hg nn ng t a u y er w
 ·simpa only [zb, zy, show bits BinOp.and IntKind.i64 9 1 = 1 from by decide, show bits BinOp.and IntKind.i64 9 2 = 0 from by decide, show bits BinOp.and IntKind.i64 9 4 = 0 from by decide, show bits BinOp.and IntKind.i64 9 8 = 8 from by decide, show bits BinOp.and IntKind.i64 9 16 = 0 from by decide, show bits BinOp.and IntKind.i64 9 32 = 0 from by decide, show bits BinOp.and IntKind.i64 9 64 = 0 from by decide, if_true, show ¬ ((1 : Int) = 0) from by decide, show ¬ ((2 : Int) = 0) from by decide, show ¬ ((4 : Int) = 0) from by decide, show ¬ ((8 : Int) = 0) from by decide, show ¬ ((16 : Int) = 0) from by decide, show ¬ ((64 : Int) = 0) from by decide, if_false, show ((32 : Int) == 0) = false from by decide, show ((0 : Int) == 0) = true from by decide, Bool.and_true, Bool.and_false] using bare_9 k wk op hn hg nn ng t a u y er w
 ·simpa only [zb, zy, show bits BinOp.and IntKind.i64 21 1 = 1 from by decide, show bits BinOp.and IntKind.i64 21 2 = 0 from by decide, show bits BinOp.and IntKind.i64 21 4 = 4 from by decide, show bits BinOp.and IntKind.i64 21 8 = 0 from by decide, show bits BinOp.and IntKind.i64 21 16 = 16 from by decide, show bits BinOp.and IntKind.i64 21 32 = 0 from by decide, show bits BinOp.and IntKind.i64 21 64 = 0 from by decide, if_true, show ¬ ((1 : Int) = 0) from by decide, show ¬ ((2 : Int) = 0) from by decide, show ¬ ((4 : Int) = 0) from by decide, show ¬ ((8 : Int) = 0) from by decide, show ¬ ((16 : Int) = 0) from by decide, show ¬ ((64 : Int) = 0) from by decide, if_false, show ((32 : Int) == 0) = false from by decide, show ((0 : Int) == 0) = true from by decide, Bool.and_true, Bool.and_false] using bare_21 k wk op hn hg nn ng t a u y er w
 ·simpa only [zb, zy, show bits BinOp.and IntKind.i64 28 1 = 0 from by decide, show bits BinOp.and IntKind.i64 28 2 = 0 from by decide, show bits BinOp.and IntKind.i64 28 4 = 4 from by decide, show bits BinOp.and IntKind.i64 28 8 = 8 from by decide, show bits BinOp.and IntKind.i64 28 16 = 16 from by decide, show bits BinOp.and IntKind.i64 28 32 = 0 from by decide, show bits BinOp.and IntKind.i64 28 64 = 0 from by decide, if_true, show ¬ ((1 : Int) = 0) from by decide, show ¬ ((2 : Int) = 0) from by decide, show ¬ ((4 : Int) = 0) from by decide, show ¬ ((8 : Int) = 0) from by decide, show ¬ ((16 : Int) = 0) from by decide, show ¬ ((64 : Int) = 0) from by decide, if_false, show ((32 : Int) == 0) = false from by decide, show ((0 : Int) == 0) = true from by decide, Bool.and_true, Bool.and_false] using bare_28 k wk op hn hg nn ng t a u y er w
 ·simpa only [zb, zy, show bits BinOp.and IntKind.i64 32 1 = 0 from by decide, show bits BinOp.and IntKind.i64 32 2 = 0 from by decide, show bits BinOp.and IntKind.i64 32 4 = 0 from by decide, show bits BinOp.and IntKind.i64 32 8 = 0 from by decide, show bits BinOp.and IntKind.i64 32 16 = 0 from by decide, show bits BinOp.and IntKind.i64 32 32 = 32 from by decide, show bits BinOp.and IntKind.i64 32 64 = 0 from by decide, if_true, show ¬ ((1 : Int) = 0) from by decide, show ¬ ((2 : Int) = 0) from by decide, show ¬ ((4 : Int) = 0) from by decide, show ¬ ((8 : Int) = 0) from by decide, show ¬ ((16 : Int) = 0) from by decide, show ¬ ((64 : Int) = 0) from by decide, if_false, show ((32 : Int) == 0) = false from by decide, show ((0 : Int) == 0) = true from by decide, Bool.and_true, Bool.and_false] using bare_32 k wk op hn hg nn ng t a u y er w
 ·simpa only [zb, zy, show bits BinOp.and IntKind.i64 33 1 = 1 from by decide, show bits BinOp.and IntKind.i64 33 2 = 0 from by decide, show bits BinOp.and IntKind.i64 33 4 = 0 from by decide, show bits BinOp.and IntKind.i64 33 8 = 0 from by decide, show bits BinOp.and IntKind.i64 33 16 = 0 from by decide, show bits BinOp.and IntKind.i64 33 32 = 32 from by decide, show bits BinOp.and IntKind.i64 33 64 = 0 from by decide, if_true, show ¬ ((1 : Int) = 0) from by decide, show ¬ ((2 : Int) = 0) from by decide, show ¬ ((4 : Int) = 0) from by decide, show ¬ ((8 : Int) = 0) from by decide, show ¬ ((16 : Int) = 0) from by decide, show ¬ ((64 : Int) = 0) from by decide, if_false, show ((32 : Int) == 0) = false from by decide, show ((0 : Int) == 0) = true from by decide, Bool.and_true, Bool.and_false] using bare_33 k wk op hn hg nn ng t a u y er w
 ·simpa only [zb, zy, show bits BinOp.and IntKind.i64 64 1 = 0 from by decide, show bits BinOp.and IntKind.i64 64 2 = 0 from by decide, show bits BinOp.and IntKind.i64 64 4 = 0 from by decide, show bits BinOp.and IntKind.i64 64 8 = 0 from by decide, show bits BinOp.and IntKind.i64 64 16 = 0 from by decide, show bits BinOp.and IntKind.i64 64 32 = 0 from by decide, show bits BinOp.and IntKind.i64 64 64 = 64 from by decide, if_true, show ¬ ((1 : Int) = 0) from by decide, show ¬ ((2 : Int) = 0) from by decide, show ¬ ((4 : Int) = 0) from by decide, show ¬ ((8 : Int) = 0) from by decide, show ¬ ((16 : Int) = 0) from by decide, show ¬ ((64 : Int) = 0) from by decide, if_false, show ((32 : Int) == 0) = false from by decide, show ((0 : Int) == 0) = true from by decide, Bool.and_true, Bool.and_false] using bare_64 k wk op hn hg nn ng t a u y er w
 ·simpa only [zb, zy, show bits BinOp.and IntKind.i64 65 1 = 1 from by decide, show bits BinOp.and IntKind.i64 65 2 = 0 from by decide, show bits BinOp.and IntKind.i64 65 4 = 0 from by decide, show bits BinOp.and IntKind.i64 65 8 = 0 from by decide, show bits BinOp.and IntKind.i64 65 16 = 0 from by decide, show bits BinOp.and IntKind.i64 65 32 = 0 from by decide, show bits BinOp.and IntKind.i64 65 64 = 64 from by decide, if_true, show ¬ ((1 : Int) = 0) from by decide, show ¬ ((2 : Int) = 0) from by decide, show ¬ ((4 : Int) = 0) from by decide, show ¬ ((8 : Int) = 0) from by decide, show ¬ ((16 : Int) = 0) from by decide, show ¬ ((64 : Int) = 0) from by decide, if_false, show ((32 : Int) == 0) = false from by decide, show ((0 : Int) == 0) = true from by decide, Bool.and_true, Bool.and_false] using bare_65 k wk op hn hg nn ng t a u y er w
 ·simpa only [zb, zy, show bits BinOp.and IntKind.i64 66 1 = 0 from by decide, show bits BinOp.and IntKind.i64 66 2 = 2 from by decide, show bits BinOp.and IntKind.i64 66 4 = 0 from by decide, show bits BinOp.and IntKind.i64 66 8 = 0 from by decide, show bits BinOp.and IntKind.i64 66 16 = 0 from by decide, show bits BinOp.and IntKind.i64 66 32 = 0 from by decide, show bits BinOp.and IntKind.i64 66 64 = 64 from by decide, if_true, show ¬ ((1 : Int) = 0) from by decide, show ¬ ((2 : Int) = 0) from by decide, show ¬ ((4 : Int) = 0) from by decide, show ¬ ((8 : Int) = 0) from by decide, show ¬ ((16 : Int) = 0) from by decide, show ¬ ((64 : Int) = 0) from by decide, if_false, show ((32 : Int) == 0) = false from by decide, show ((0 : Int) == 0) = true from by decide, Bool.and_true, Bool.and_false] using bare_66 k wk op hn hg nn ng t a u y er w
 ·simpa only [zb, zy, show bits BinOp.and IntKind.i64 70 1 = 0 from by decide, show bits BinOp.and IntKind.i64 70 2 = 2 from by decide, show bits BinOp.and IntKind.i64 70 4 = 4 from by decide, show bits BinOp.and IntKind.i64 70 8 = 0 from by decide, show bits BinOp.and IntKind.i64 70 16 = 0 from by decide, show bits BinOp.and IntKind.i64 70 32 = 0 from by decide, show bits BinOp.and IntKind.i64 70 64 = 64 from by decide, if_true, show ¬ ((1 : Int) = 0) from by decide, show ¬ ((2 : Int) = 0) from by decide, show ¬ ((4 : Int) = 0) from by decide, show ¬ ((8 : Int) = 0) from by decide, show ¬ ((16 : Int) = 0) from by decide, show ¬ ((64 : Int) = 0) from by decide, if_false, show ((32 : Int) == 0) = false from by decide, show ((0 : Int) == 0) = true from by decide, Bool.and_true, Bool.and_false] using bare_70 k wk op hn hg nn ng t a u y er w
 ·simpa only [zb, zy, show bits BinOp.and IntKind.i64 71 1 = 1 from by decide, show bits BinOp.and IntKind.i64 71 2 = 2 from by decide, show bits BinOp.and IntKind.i64 71 4 = 4 from by decide, show bits BinOp.and IntKind.i64 71 8 = 0 from by decide, show bits BinOp.and IntKind.i64 71 16 = 0 from by decide, show bits BinOp.and IntKind.i64 71 32 = 0 from by decide, show bits BinOp.and IntKind.i64 71 64 = 64 from by decide, if_true, show ¬ ((1 : Int) = 0) from by decide, show ¬ ((2 : Int) = 0) from by decide, show ¬ ((4 : Int) = 0) from by decide, show ¬ ((8 : Int) = 0) from by decide, show ¬ ((16 : Int) = 0) from by decide, show ¬ ((64 : Int) = 0) from by decide, if_false, show ((32 : Int) == 0) = false from by decide, show ((0 : Int) == 0) = true from by decide, Bool.and_true, Bool.and_false] using bare_71 k wk op hn hg nn ng t a u y er w
theorem pick_in (L : List Int) (op : Int) : (pickL L op).1 = 0 ∨ (pickL L op).1 ∈ L := by
 unfold pickL
 split
 ·exact .inl rfl
 ·right
  simp only [List.getD_eq_getElem?_getD]
  rename_i h
  have : op.toNat < L.length := by omega
  rw [List.getElem?_eq_getElem this]
  exact List.getElem_mem _
theorem fields_in (k wk op er : Int) : (fieldsF k wk op er).1 ∈ fset := by
 unfold fieldsF
 have p2 := pick_in [0, 28, 1, 5, 9, 0, 0, 0] op
 have p3 := pick_in [0, 70, 33, 71, 65] op
 have p5 := pick_in [0, 66, 32, 66, 64, 0, 4, 4] op
 generalize pickL [0, 28, 1, 5, 9, 0, 0, 0] op = q2 at *
 generalize pickL [0, 70, 33, 71, 65] op = q3 at *
 generalize pickL [0, 66, 32, 66, 64, 0, 4, 4] op = q5 at *
 split
 ·show (4 : Int) ∈ fset
  decide
 split
 ·show (21 : Int) ∈ fset
  decide
 split
 ·simp only [List.mem_cons, List.not_mem_nil, or_false] at p2
  rcases p2 with h | h | h | h | h | h | h | h | h <;> rw [h] <;> decide
 split
 ·simp only [List.mem_cons, List.not_mem_nil, or_false] at p3
  rcases p3 with h | h | h | h | h | h <;> rw [h] <;> split <;> dsimp only <;> decide
 split
 ·simp only [List.mem_cons, List.not_mem_nil, or_false] at p5
  rcases p5 with h | h | h | h | h | h | h | h | h <;> rw [h] <;> split <;> dsimp only <;> decide
 ·decide
theorem eqHa (d : Nat) (w : World) (x0 y0 : Int) (x1 y1 : Int) :
  (Op.equalIn (d + 2) 34 (.agg #[.int .i64 x0, .int .i64 x1]) (.agg #[.int .i64 y0, .int .i64 y1])).run Try.prog w = .ok (x0 == y0 && (x1 == y1)) w := by
 refine eqA_of Try.underlying34 (by kernel_rfl) ?_
 refine eqf_cons (by rfl) (by go_simp; rfl) (by go_simp; rfl) (by go_simp) ?_
 exact eqf_last (by rfl) (by go_simp; rfl) (by go_simp; rfl) (by go_simp)
theorem eqEv (d : Nat) (w : World) (x0 y0 : Int) (x1 y1 : Int) (x2 y2 : Int) (x3 y3 : Int) (x4 y4 : Int) (x5 y5 : Int) (x6 y6 : Int) (x7 y7 : Int) (x8 y8 : Int) (x9 y9 : Int) (x10 y10 : Bool) (x11 y11 : Int) :
  (Op.equalIn (d + 3) 54 (.agg #[.int .i64 x0, .int .i64 x1, .int .i64 x2, .int .i64 x3, .int .i64 x4, .int .i64 x5, .int .i64 x6, .int .i64 x7, .int .i64 x8, .int .i64 x9, .bool x10, .int .i64 x11]) (.agg #[.int .i64 y0, .int .i64 y1, .int .i64 y2, .int .i64 y3, .int .i64 y4, .int .i64 y5, .int .i64 y6, .int .i64 y7, .int .i64 y8, .int .i64 y9, .bool y10, .int .i64 y11])).run Try.prog w = .ok (x0 == y0 && (x1 == y1 && (x2 == y2 && ((x3 == y3 && (x4 == y4)) && ((x5 == y5 && (x6 == y6)) && (x7 == y7 && (x8 == y8 && (x9 == y9 && (x10 == y10 && (x11 == y11)))))))))) w := by
 refine eqA_of Try.underlying54 (by kernel_rfl) ?_
 refine eqf_cons (by rfl) (by go_simp; rfl) (by go_simp; rfl) (by go_simp) ?_
 refine eqf_cons (by rfl) (by go_simp; rfl) (by go_simp; rfl) (by go_simp) ?_
 refine eqf_cons (by rfl) (by go_simp; rfl) (by go_simp; rfl) (by go_simp) ?_
 refine eqf_cons (by rfl) (by go_simp) (by go_simp) (eqHa (d + 0) w _ _ _ _) ?_
 refine eqf_cons (by rfl) (by go_simp) (by go_simp) (eqHa (d + 0) w _ _ _ _) ?_
 refine eqf_cons (by rfl) (by go_simp; rfl) (by go_simp; rfl) (by go_simp) ?_
 refine eqf_cons (by rfl) (by go_simp; rfl) (by go_simp; rfl) (by go_simp) ?_
 refine eqf_cons (by rfl) (by go_simp; rfl) (by go_simp; rfl) (by go_simp) ?_
 refine eqf_cons (by rfl) (by go_simp; rfl) (by go_simp; rfl) (by go_simp) ?_
 exact eqf_last (by rfl) (by go_simp; rfl) (by go_simp; rfl) (by go_simp)
end Go.Proofs.Ythniclbmpeklmaa.Ev
end
section
namespace Go.Proofs.Ythniclbmpeklmaa.Ev
open Go.RowKit Go.Proofs.YthniclbmpeklmaaW.PrintWords Go.Proofs.YthniclbmpeklmaaW.PrintLast Go.Proofs.YthniclbmpeklmaaW.PrintMore
set_option linter.unusedVariables false
set_option linter.unusedSimpArgs false
theorem dlt {x : Int} (h : 0 ≤ x) : decide (x < 0) = false := decide_eq_false (by omega)
attribute [local go_sem high] eqEv eqHa
set_option maxHeartbeats 4000000 in
set_option maxRecDepth 100000 in
theorem right_walk (k wk op hn hg nn ng t a u : Int) (y : Bool) (er : Int) (f : Int) (ok q : Bool) (x1 x2 x3 x4 x5 x6 x7 : Int) (x8 : Bool) (x9 : Int)
    (CF : Aside0 (∀ W, Calls Try.prog 92 #[.agg (evC k wk op hn hg nn ng t a u y er)] W fun e w' => e = .returned (.tuple #[.int .i64 f, .bool ok]) ∧ Below W.heap.size W w'))
    (CC : Aside0 (∀ W, Calls Try.prog 93 #[.agg (evC k wk op hn hg nn ng t a u y er)] W fun e w' => e = .returned (.bool q) ∧ Below W.heap.size W w'))
    (CB : Aside0 (∀ W, Calls Try.prog 94 #[.agg (evC k wk op hn hg nn ng t a u y er), .int .i64 f] W fun e w' => e = .returned (.agg (evC k wk op x1 x2 x3 x4 x5 x6 x7 x8 x9)) ∧ Below W.heap.size W w')) (w : World) :
    Calls Try.prog 65 #[.agg (evC k wk op hn hg nn ng t a u y er)] w fun e w' => e = .returned (.bool (ok && (!decide (wk < 0) && (!decide (er < 0) && ((k == 2) || q))) && (x1 == 0 && x2 == 0 && x3 == 0 && x4 == 0 && x5 == 0 && x6 == 0 && x7 == 0 && !x8 && x9 == 0))) ∧ Below w.heap.size w w' := by
  have hu := Try.underlying54
  have hu2 := Try.underlying34
  by_cases k2 : k = 2
  · subst k2
    have HB := Aside0.mk (below_alloc (Below.refl w.heap.size w) (.cells (evC 2 wk op hn hg nn ng t a u y er) 54))
    have HO := Aside0.mk (heap_alloc_new w (.cells (evC 2 wk op hn hg nn ng t a u y er) 54))
    go_enter Try.func65, Try.ntmps65
    go_wp2_with (first | (go_at_call 92; (with_reducible refine (CF.out _).mono ?_); rintro e w1 ⟨rfl, hb⟩; have n0 := Aside0.mk (below_step HB.out hb); have n1 := Aside0.mk ((hb.block _ (by simp)).trans HO.out); clear HB HO hb; have HB := n0; have HO := n1; clear n0 n1; have hc := fun i => blk_cell HO.out i; have hz := Aside0.mk (blk_lt HO.out)) | (go_at_call 93; (with_reducible refine (CC.out _).mono ?_); rintro e w1 ⟨rfl, hb⟩; have n0 := Aside0.mk (below_step HB.out hb); have n1 := Aside0.mk ((hb.block _ hz.out).trans HO.out); clear hc; clear HB HO hb; have HB := n0; have HO := n1; clear n0 n1; have hc := fun i => blk_cell HO.out i))
    all_goals first
      | (go_ret; exact ⟨by first | (simp [*, Bool.and_assoc, dlt]; done) | (simp_all [Bool.and_assoc, dlt]; done) | (simp [*, Bool.and_assoc, dlt]; rename_i h9; intro hq; exfalso; rcases h9 with (h9 | h9) | h9; omega; omega; (rw [hq] at h9; cases h9)), HB.out⟩)
      | (go_region_held3 (fun w' => ∀ i, w'.cell? ⟨w.heap.size, i, none⟩ = (evC 2 wk op hn hg nn ng t a u y er)[i]?) ((intro i; exact blk_cell HO.out i)) ((go_at_call 94; (with_reducible refine (CB.out _).mono ?_); rintro e w2 ⟨rfl, hb⟩; have n0 := Aside0.mk (below_step (Below.drew HB.out) hb); have n1 := Aside0.mk ((hb.block _ (by exact blk_lt HO.out)).trans (by exact HO.out)); clear hc; clear HB HO hb; have HB := n0; have HO := n1; clear n0 n1))
         go_wp2
         go_ret
         exact ⟨by first | (simp [*, Bool.and_assoc, dlt]; done) | (simp_all [Bool.and_assoc, dlt]; done) | (simp [*, Bool.and_assoc, dlt]; rename_i h9; intro hq; exfalso; rcases h9 with (h9 | h9) | h9; omega; omega; (rw [hq] at h9; cases h9)), HB.out⟩)
  · have b2 : (k == 2) = false := beq_eq_false_iff_ne.2 k2
    have b2' : (k != 2) = true := bne_iff_ne.2 k2
    clear k2
    have HB := Aside0.mk (below_alloc (Below.refl w.heap.size w) (.cells (evC k wk op hn hg nn ng t a u y er) 54))
    have HO := Aside0.mk (heap_alloc_new w (.cells (evC k wk op hn hg nn ng t a u y er) 54))
    go_enter Try.func65, Try.ntmps65
    go_wp2_with (first | (go_at_call 92; (with_reducible refine (CF.out _).mono ?_); rintro e w1 ⟨rfl, hb⟩; have n0 := Aside0.mk (below_step HB.out hb); have n1 := Aside0.mk ((hb.block _ (by simp)).trans HO.out); clear HB HO hb; have HB := n0; have HO := n1; clear n0 n1; have hc := fun i => blk_cell HO.out i; have hz := Aside0.mk (blk_lt HO.out)) | (go_at_call 93; (with_reducible refine (CC.out _).mono ?_); rintro e w1 ⟨rfl, hb⟩; have n0 := Aside0.mk (below_step HB.out hb); have n1 := Aside0.mk ((hb.block _ hz.out).trans HO.out); clear hc; clear HB HO hb; have HB := n0; have HO := n1; clear n0 n1; have hc := fun i => blk_cell HO.out i))
    all_goals first
      | (go_ret; exact ⟨by first | (simp [*, Bool.and_assoc, dlt]; done) | (simp_all [Bool.and_assoc, dlt]; done) | (simp [*, Bool.and_assoc, dlt]; rename_i h9; intro hq; exfalso; rcases h9 with (h9 | h9) | h9; omega; omega; (rw [hq] at h9; cases h9)), HB.out⟩)
      | (go_region_held3 (fun w' => ∀ i, w'.cell? ⟨w.heap.size, i, none⟩ = (evC k wk op hn hg nn ng t a u y er)[i]?) ((intro i; exact blk_cell HO.out i)) ((go_at_call 94; (with_reducible refine (CB.out _).mono ?_); rintro e w2 ⟨rfl, hb⟩; have n0 := Aside0.mk (below_step (Below.drew HB.out) hb); have n1 := Aside0.mk ((hb.block _ (by exact blk_lt HO.out)).trans (by exact HO.out)); clear hc; clear HB HO hb; have HB := n0; have HO := n1; clear n0 n1))
         go_wp2
         go_ret
         exact ⟨by first | (simp [*, Bool.and_assoc, dlt]; done) | (simp_all [Bool.and_assoc, dlt]; done) | (simp [*, Bool.and_assoc, dlt]; rename_i h9; intro hq; exfalso; rcases h9 with (h9 | h9) | h9; omega; omega; (rw [hq] at h9; cases h9)), HB.out⟩)
def rightP (k wk op hn hg nn ng t a u : Int) (y : Bool) (er : Int) : Bool :=
  ((fieldsF k wk op er).2 && (!decide (wk < 0) && (!decide (er < 0) && ((k == 2) || countedB k hn hg nn ng t a u))) && (zb (fieldsF k wk op er).1 1 hn == 0 && zb (fieldsF k wk op er).1 1 hg == 0 && zb (fieldsF k wk op er).1 2 nn == 0 && zb (fieldsF k wk op er).1 2 ng == 0 && zb (fieldsF k wk op er).1 4 t == 0 && zb (fieldsF k wk op er).1 8 a == 0 && zb (fieldsF k wk op er).1 16 u == 0 && !zy (fieldsF k wk op er).1 y && zb (fieldsF k wk op er).1 64 er == 0))
theorem ev_right_any (k wk op hn hg nn ng t a u : Int) (y : Bool) (er : Int) (w : World) :
    Calls Try.prog 65 #[.agg (evC k wk op hn hg nn ng t a u y er)] w fun e w' => e = .returned (.bool (rightP k wk op hn hg nn ng t a u y er)) ∧ Below w.heap.size w w' :=
  right_walk k wk op hn hg nn ng t a u y er _ _ _ _ _ _ _ _ _ _ _ _ ⟨fun W => fields_any k wk op hn hg nn ng t a u y er W⟩ ⟨fun W => counted_any k wk op hn hg nn ng t a u y er W⟩ ⟨fun W => bare_any k wk op hn hg nn ng t a u y er _ (fields_in k wk op er) W⟩ w
end Go.Proofs.Ythniclbmpeklmaa.Ev
end
section
namespace Go.Proofs.Ythniclbmpeklmaa.Ev
open Go.RowKit
set_option linter.unusedVariables false
set_option linter.unusedSimpArgs false
set_option maxHeartbeats 4000000
theorem right_no (k wk op hn hg nn ng t a u : Int) (y : Bool) (er : Int) (h1 : (fieldsF k wk op er).2 = false) (h2 : kindB k wk op = false) : rightP k wk op hn hg nn ng t a u y er = evRight k wk op hn hg nn ng t a u y er := by
 rw [rightP, evRight, h1, h2]
 rfl
theorem pick_in1 {L : List Int} {op : Int} (h : op < 1 ∨ (L.length : Int) ≤ op) : pickL L op = (0, false) := if_pos h
theorem right_eq (k wk op hn hg nn ng t a u : Int) (y : Bool) (er : Int) : rightP k wk op hn hg nn ng t a u y er = evRight k wk op hn hg nn ng t a u y er := by
 by_cases k1 : k = 1
 ·subst k1
  cases y <;> (rw [Bool.eq_iff_iff]; simp (decide := true) [rightP, evRight, fieldsF, pickL, kindB, emptyB, hasH, hasN, hasT, hasA, hasU, hasY, hasE, in3, made, countedB, zb, zy, *] <;> omega)
 by_cases k4 : k = 4
 ·subst k4
  cases y <;> (rw [Bool.eq_iff_iff]; simp (decide := true) [rightP, evRight, fieldsF, pickL, kindB, emptyB, hasH, hasN, hasT, hasA, hasU, hasY, hasE, in3, made, countedB, zb, zy, *] <;> omega)
 by_cases k2 : k = 2
 ·subst k2
  by_cases h : op < 1 ∨ (8 : Int) ≤ op
  ·apply right_no
   ·rw [fieldsF, if_neg (by decide), if_neg (by decide), if_pos rfl, pick_in1 h]
   ·rw [Bool.eq_false_iff]
    simp [kindB]
    omega
  ·obtain rfl | rfl | rfl | rfl | rfl | rfl | rfl : op = 1 ∨ op = 2 ∨ op = 3 ∨ op = 4 ∨ op = 5 ∨ op = 6 ∨ op = 7 := by omega
   all_goals (cases y <;> (rw [Bool.eq_iff_iff]; simp (decide := true) [rightP, evRight, fieldsF, pickL, kindB, emptyB, hasH, hasN, hasT, hasA, hasU, hasY, hasE, in3, made, countedB, zb, zy, *] <;> omega))
 by_cases k3 : k = 3
 ·subst k3
  by_cases h : op < 1 ∨ (5 : Int) ≤ op
  ·apply right_no
   ·rw [fieldsF, if_neg (by decide), if_neg (by decide), if_neg (by decide), if_pos rfl, pick_in1 h]
   ·rw [Bool.eq_false_iff]
    simp [kindB]
    omega
  ·by_cases he : er = 0
   ·subst he
    obtain rfl | rfl | rfl | rfl : op = 1 ∨ op = 2 ∨ op = 3 ∨ op = 4 := by omega
    all_goals (cases y <;> (rw [Bool.eq_iff_iff]; simp (decide := true) [rightP, evRight, fieldsF, pickL, kindB, emptyB, hasH, hasN, hasT, hasA, hasU, hasY, hasE, in3, made, countedB, zb, zy, *] <;> omega))
   ·obtain rfl | rfl | rfl | rfl : op = 1 ∨ op = 2 ∨ op = 3 ∨ op = 4 := by omega
    all_goals (cases y <;> (rw [Bool.eq_iff_iff]; simp (decide := true) [rightP, evRight, fieldsF, pickL, kindB, emptyB, hasH, hasN, hasT, hasA, hasU, hasY, hasE, in3, made, countedB, zb, zy, *] <;> omega))
 by_cases k5 : k = 5
 ·subst k5
  by_cases h : op < 1 ∨ (8 : Int) ≤ op
  ·apply right_no
   ·rw [fieldsF, if_neg (by decide), if_neg (by decide), if_neg (by decide), if_neg (by decide), if_pos rfl, pick_in1 h]
   ·rw [Bool.eq_false_iff]
    simp [kindB]
    omega
  ·by_cases he : er = 0
   ·subst he
    obtain rfl | rfl | rfl | rfl | rfl | rfl | rfl : op = 1 ∨ op = 2 ∨ op = 3 ∨ op = 4 ∨ op = 5 ∨ op = 6 ∨ op = 7 := by omega
    all_goals (cases y <;> (rw [Bool.eq_iff_iff]; simp (decide := true) [rightP, evRight, fieldsF, pickL, kindB, emptyB, hasH, hasN, hasT, hasA, hasU, hasY, hasE, in3, made, countedB, zb, zy, *] <;> omega))
   ·obtain rfl | rfl | rfl | rfl | rfl | rfl | rfl : op = 1 ∨ op = 2 ∨ op = 3 ∨ op = 4 ∨ op = 5 ∨ op = 6 ∨ op = 7 := by omega
    all_goals (cases y <;> (rw [Bool.eq_iff_iff]; simp (decide := true) [rightP, evRight, fieldsF, pickL, kindB, emptyB, hasH, hasN, hasT, hasA, hasU, hasY, hasE, in3, made, countedB, zb, zy, *] <;> omega))
 apply right_no
 ·rw [fieldsF, if_neg k1, if_neg k4, if_neg k2, if_neg k3, if_neg k5]
 ·rw [Bool.eq_false_iff]
  simp [kindB]
  omega
theorem event_right (k wk op hn hg nn ng t a u : Int) (y : Bool) (er : Int) (w : World) :
  Calls Try.prog 65 #[.agg (evC k wk op hn hg nn ng t a u y er)] w fun e w' => e = .returned (.bool (evRight k wk op hn hg nn ng t a u y er)) ∧ Below w.heap.size w w' := by
 rw [← right_eq]
 exact ev_right_any k wk op hn hg nn ng t a u y er w
end Go.Proofs.Ythniclbmpeklmaa.Ev
end
section
set_option maxHeartbeats 4000000
set_option maxRecDepth 100000
namespace Go.Proofs.Ythniclbmpeklmaa.Ju
open Go.RowKit Go.Maps Go.Proofs.YthniclbmpeklmaaW.PrintWords Go.Proofs.YthniclbmpeklmaaW.PrintLast Go.Proofs.YthniclbmpeklmaaW.PrintMore Go.Proofs.Ythniclbmpeklmaa.Mp Go.Proofs.Ythniclbmpeklmaa.Au
set_option linter.unusedVariables false
set_option linter.unusedSimpArgs false
def unF (c : Bool) (m' m : Md) : Md × Int := if c = true then (m', 0) else (m, 6)
theorem end_new (b : Nat) (x y s : Int) (w : World) : Calls Try.prog 75 #[pA b, .agg #[.int .i64 x, .int .i64 y], .int .i64 s] w fun r w' => ∃ sb xb hb, r = .returned (.func (.func 99) #[] #[pA sb, pA xb, pA hb]) ∧ (w'.heap[sb]? = some (.cells #[.int .i64 s] 3 (0, 0)) ∧ w'.heap[xb]? = some (.cells #[pA b] 58 (0, 0)) ∧ w'.heap[hb]? = some (.cells #[.int .i64 x, .int .i64 y] 34 (0, 0))) ∧ Below w.heap.size w w' :=
 (end_any b x y s w).mono fun r w' ⟨h1, h2⟩ => ⟨_, _, _, h1, by
  subst h2
  exact ⟨by have q := blk_new ((w.alloc (.cells #[pA b] 58)).alloc (.cells #[.int .i64 x, .int .i64 y] 34)) (.cells #[.int .i64 s] 3); rw [show ((w.alloc (.cells #[pA b] 58)).alloc (.cells #[.int .i64 x, .int .i64 y] 34)).heap.size = w.heap.size + 1 + 1 by simp] at q; exact q,
   blk_alloc (blk_alloc (blk_new _ _) _) _, blk_alloc (by have q := blk_new (w.alloc (.cells #[pA b] 58)) (.cells #[.int .i64 x, .int .i64 y] 34); rw [show (w.alloc (.cells #[pA b] 58)).heap.size = w.heap.size + 1 by simp] at q; exact q) _⟩, by
  subst h2
  exact below_alloc (below_alloc (below_alloc (Below.refl _ _) _) _) _⟩
section
variable {w W W1 : World} {B b n m1 m2 eb xb sb hb : Nat} {m m' : Md} {e : Ev}
theorem un_no (fn : Fn) (first cap : Array Value) (h : MdIs W B b n m m1 m2) (k : Nat) : Calls Try.prog 73 #[.bool false, .func fn first cap] W fun r w' => r = .returned (.int .i64 (unF false m' m).2) ∧ MdIs w' B b (n + k) (unF false m' m).1 m1 m2 ∧ Fr W w' (mdS b m1 m2) :=
 (unless_no fn first cap W).mono fun r w' ⟨h1, h2⟩ => ⟨h1, by rw [h2]; exact h.up (by omega), by rw [h2]; exact Fr.refl _ _⟩
theorem un_nothing (c : Bool) (h : MdIs W B b n m m1 m2) : Calls Try.prog 73 #[.bool c, .func (.func 100) #[] #[]] W fun r w' => r = .returned (.int .i64 (unF c m m).2) ∧ MdIs w' B b (n + 3) (unF c m m).1 m1 m2 ∧ Fr W w' (mdS b m1 m2) := by
 cases c with
 | false => exact un_no _ _ _ h 3
 | true => exact (unless_nothing #[] W (fun w' => w' = W) (model_nothing W)).mono fun r w' ⟨h1, h2⟩ => ⟨h1, by rw [h2]; exact h.up (by omega), by rw [h2]; exact Fr.refl _ _⟩
theorem un_tick (c : Bool) (h : MdIs W B b n m m1 m2) (he : W.heap[eb]? = some (.cells (evA e) 54 (0, 0))) (hx : W.heap[xb]? = some (.cells #[pA b] 58 (0, 0))) : Calls Try.prog 73 #[.bool c, .func (.func 74) #[] #[pA eb, pA xb]] W fun r w' => r = .returned (.int .i64 (unF c { m with clk := e.t } m).2) ∧ MdIs w' B b (n + 3) (unF c { m with clk := e.t } m).1 m1 m2 ∧ Fr W w' (mdS b m1 m2) := by
 cases c with
 | false => exact un_no _ _ _ h 3
 | true => exact (unless_tick #[pA eb, pA xb] W _ (tick_any e h he hx)).mono fun r w' ⟨h1, h2⟩ => ⟨h1, h2.1.up (by omega), h2.2⟩
theorem un_end (c : Bool) (s x y : Int) (hn : n ≤ 1000000) (hx : (Lit.int .i64 x).wf = true) (hy : (Lit.int .i64 y).wf = true) (h : MdIs W B b n m m1 m2) (hb3 : W.heap[sb]? = some (.cells #[.int .i64 s] 3 (0, 0)) ∧ W.heap[xb]? = some (.cells #[pA b] 58 (0, 0)) ∧ W.heap[hb]? = some (.cells #[.int .i64 x, .int .i64 y] 34 (0, 0))) :
  Calls Try.prog 73 #[.bool c, .func (.func 99) #[] #[pA sb, pA xb, pA hb]] W fun r w' => r = .returned (.int .i64 (unF c (m.end_ (x, y) s) m).2) ∧ MdIs w' B b (n + 3) (unF c (m.end_ (x, y) s) m).1 m1 m2 ∧ Fr W w' (mdS b m1 m2) := by
 cases c with
 | false => exact un_no _ _ _ h 3
 | true => exact (unless_end #[pA sb, pA xb, pA hb] W _ (end1_any s x y hn hx hy h hb3.1 hb3.2.1 hb3.2.2)).mono fun r w' ⟨h1, h2⟩ => ⟨h1, h2.1.up (by omega), h2.2⟩
theorem un_start (c : Bool) (hn : n ≤ 1000000) (hx : (Lit.int .i64 e.nn).wf = true) (hy : (Lit.int .i64 e.ng).wf = true) (h : MdIs W B b n m m1 m2) (he : W.heap[eb]? = some (.cells (evA e) 54 (0, 0))) (hxb : W.heap[xb]? = some (.cells #[pA b] 58 (0, 0))) :
  Calls Try.prog 73 #[.bool c, .func (.func 101) #[] #[pA xb, pA eb]] W fun r w' => r = .returned (.int .i64 (unF c (m.arm e.new e.t) m).2) ∧ MdIs w' B b (n + 3) (unF c (m.arm e.new e.t) m).1 m1 m2 ∧ Fr W w' (mdS b m1 m2) := by
 cases c with
 | false => exact un_no _ _ _ h 3
 | true => exact (unless_start #[pA xb, pA eb] W _ (start1_any e hn hx hy h he hxb)).mono fun r w' ⟨h1, h2⟩ => ⟨h1, h2.1.up (by omega), h2.2⟩
theorem un_rearm (c : Bool) (hn : n + 1 ≤ 1000000) (hx : (Lit.int .i64 e.nn).wf = true) (hy : (Lit.int .i64 e.ng).wf = true) (hx' : (Lit.int .i64 e.hn).wf = true) (hy' : (Lit.int .i64 e.hg).wf = true) (h : MdIs W B b n m m1 m2) (he : W.heap[eb]? = some (.cells (evA e) 54 (0, 0))) (hxb : W.heap[xb]? = some (.cells #[pA b] 58 (0, 0))) :
  Calls Try.prog 73 #[.bool c, .func (.func 103) #[] #[pA xb, pA eb]] W fun r w' => r = .returned (.int .i64 (unF c ((m.end_ e.h 4).arm e.new e.t) m).2) ∧ MdIs w' B b (n + 3) (unF c ((m.end_ e.h 4).arm e.new e.t) m).1 m1 m2 ∧ Fr W w' (mdS b m1 m2) := by
 cases c with
 | false => exact un_no _ _ _ h 3
 | true => exact (unless_rearm #[pA xb, pA eb] W _ (rearm1_any e hn hx hy hx' hy' h he hxb)).mono fun r w' ⟨h1, h2⟩ => ⟨h1, h2⟩
end
structure Dj (w W : World) (B b n m1 m2 : Nat) (m : Md) (e : Ev) : Prop where
 md : MdIs W B b n m m1 m2
 xb : W.heap[w.heap.size]? = some (.cells #[pA b] 58 (0, 0))
 eb : W.heap[w.heap.size + 1]? = some (.cells (evA e) 54 (0, 0))
 fr : Fr w W (mdS b m1 m2)
section
variable {w W W1 : World} {B b n m1 m2 : Nat} {m : Md} {e : Ev}
theorem Dj.start (h : MdIs w B b n m m1 m2) (e : Ev) : Dj w ((w.alloc (.cells #[pA b] 58)).alloc (.cells (evA e) 54)) B b n m1 m2 m e :=
 ⟨(h.alloc _).alloc _, blk_alloc (blk_new _ _) _, by have q := blk_new (w.alloc (.cells #[pA b] 58)) (.cells (evA e) 54); rw [show (w.alloc (.cells #[pA b] 58)).heap.size = w.heap.size + 1 by simp] at q; exact q, ((Fr.refl _ _).alloc _).alloc _⟩
theorem Dj.step (h : Dj w W B b n m1 m2 m e) (hb : Below W.heap.size W W1) : Dj w W1 B b n m1 m2 m e := ⟨h.md.below hb, blk_below h.xb hb, blk_below h.eb hb, h.fr.trans (Fr.of_below hb _)⟩
theorem Dj.alloc (h : Dj w W B b n m1 m2 m e) (o : Obj) : Dj w (W.alloc o) B b n m1 m2 m e := h.step (below_alloc (Below.refl _ _) o)
theorem Dj.drew (h : Dj w W B b n m1 m2 m e) : Dj w W.drew B b n m1 m2 m e := ⟨h.md.drew, h.xb, h.eb, h.fr.drew⟩
theorem Dj.drewN (h : Dj w W B b n m1 m2 m e) (q : Nat) : Dj w (W.drewN q) B b n m1 m2 m e := ⟨h.md.drewN q, h.xb, h.eb, h.fr.drewN q⟩
theorem Dj.cells (h : Dj w W B b n m1 m2 m e) : (∀ i, W.cell? ⟨b, i, none⟩ = (mdA m m1 m2)[i]?) ∧ (∀ i, W.cell? ⟨w.heap.size, i, none⟩ = (#[pA b] : Array Value)[i]?) ∧ (∀ i, W.cell? ⟨w.heap.size + 1, i, none⟩ = (evA e)[i]?) := ⟨fun i => h.md.cell i, fun i => blk_cell h.xb i, fun i => blk_cell h.eb i⟩
end
def DoPost (w : World) (B b n m1 m2 : Nat) (p : Md × Int) (r : Ending) (w' : World) : Prop := r = .returned (.int .i64 p.2) ∧ MdIs w' B b (n + 3) p.1 m1 m2 ∧ Fr w w' (mdS b m1 m2)
theorem DoPost.of {w W : World} {B b n m1 m2 : Nat} {p q : Md × Int} (h : p = q) {v : Int} (hv : v = q.2) (hm : MdIs W B b (n + 3) q.1 m1 m2) (hf : Fr w W (mdS b m1 m2)) : DoPost w B b n m1 m2 p (.returned (.int .i64 v)) W := by
 subst h
 subst hv
 exact ⟨rfl, hm, hf⟩
theorem point_cancel {w : World} {B b n m1 m2 : Nat} {m : Md} (e : Ev) (hw : (Lit.int .i64 e.hn).wf = true ∧ (Lit.int .i64 e.hg).wf = true ∧ (Lit.int .i64 e.nn).wf = true ∧ (Lit.int .i64 e.ng).wf = true) (hn : n + 1 ≤ 1000000) (h : MdIs w B b n m m1 m2) (ho : e.op = 2) (hy : e.y = true) :
  Calls Try.prog 76 #[pA b, .agg (evA e), .bool (m.st e.h == 1)] w (DoPost w B b n m1 m2 (pointF m e)) := by
 have hu0 := Try.underlying125
 have hu1 := Try.underlying34
 have hu2 := Try.underlying54
 have hmf : ∀ (fn : Fn) (first cap : Array Value) (w : World), (Instr.makeFunc fn first cap).run Try.prog w = .ok (.func fn first cap) w := fun _ _ _ _ => rfl
 have HF := Aside0.mk (show pointF m e = unF (m.st e.h == 1) (m.end_ e.h 3) m by unfold pointF; rw [if_pos ⟨ho, hy⟩]; unfold unF; by_cases ha : m.st e.h = 1 <;> simp [ha])
 have q0 : (e.op == 2) = true := beq_iff_eq.2 (ho)
 have r0 : (e.op != 2) = false := bne_eq_false_iff_eq.2 (ho)
 have y0 := hy
 have HW := Aside0.mk hw
 have HN := Aside0.mk hn
 have HJ := Aside0.mk (Dj.start h e)
 have CE := Aside0.mk (fun W => end_new b e.hn e.hg 3 W)
 obtain ⟨am, ham⟩ : ∃ am, (m.st e.h == 1) = am := ⟨_, rfl⟩
 (try rw [ham] at HF); rw [ham]
 clear ham hw hn h ho hy
 go_enter Try.func76, Try.ntmps76
 go_wp2_with (first | (go_at_call 75; (with_reducible refine (CE.out _).mono ?_); rintro r w2 ⟨sb, xb, hb, rfl, h3, hb2⟩; have HE2 := Aside0.mk (And.intro h3 (HJ.out.step hb2)); clear h3 hb2) | (go_at_call 73; (with_reducible refine (un_end am 3 e.hn e.hg (by have := HN.out; omega) HW.out.1 HW.out.2.1 HE2.out.2.md HE2.out.1).mono ?_); rintro r w4 ⟨rfl, hm, hf⟩; have HM := Aside0.mk (And.intro hm (HE2.out.2.fr.trans hf)); clear hm hf))
 go_ret
 exact DoPost.of HF.out rfl HM.out.1 HM.out.2
theorem point_cancel_no {w : World} {B b n m1 m2 : Nat} {m : Md} (e : Ev) (hw : (Lit.int .i64 e.hn).wf = true ∧ (Lit.int .i64 e.hg).wf = true ∧ (Lit.int .i64 e.nn).wf = true ∧ (Lit.int .i64 e.ng).wf = true) (hn : n + 1 ≤ 1000000) (h : MdIs w B b n m m1 m2) (ho : e.op = 2) (hy : e.y = false) :
  Calls Try.prog 76 #[pA b, .agg (evA e), .bool (m.st e.h == 1)] w (DoPost w B b n m1 m2 (pointF m e)) := by
 have hu0 := Try.underlying125
 have hu1 := Try.underlying34
 have hu2 := Try.underlying54
 have hmf : ∀ (fn : Fn) (first cap : Array Value) (w : World), (Instr.makeFunc fn first cap).run Try.prog w = .ok (.func fn first cap) w := fun _ _ _ _ => rfl
 have HF := Aside0.mk (show pointF m e = unF (!(m.st e.h == 1)) m m by unfold pointF; rw [if_neg (by rw [hy]; simp), if_pos (.inl ho)]; unfold unF; by_cases ha : m.st e.h = 1 <;> simp [ha])
 have q0 : (e.op == 2) = true := beq_iff_eq.2 (ho)
 have r0 : (e.op != 2) = false := bne_eq_false_iff_eq.2 (ho)
 have y0 := hy
 have HW := Aside0.mk hw
 have HN := Aside0.mk hn
 have HJ := Aside0.mk (Dj.start h e)
 obtain ⟨am, ham⟩ : ∃ am, (m.st e.h == 1) = am := ⟨_, rfl⟩
 (try rw [ham] at HF); rw [ham]
 clear ham hw hn h ho hy
 go_enter Try.func76, Try.ntmps76
 go_wp2_with (first | (go_at_call 73; (with_reducible refine (un_nothing (!am) HJ.out.md).mono ?_); rintro r w4 ⟨rfl, hm, hf⟩; have HM := Aside0.mk (And.intro hm (HJ.out.fr.trans hf)); clear hm hf))
 go_ret
 exact DoPost.of HF.out rfl HM.out.1 HM.out.2
theorem point_stale {w : World} {B b n m1 m2 : Nat} {m : Md} (e : Ev) (hw : (Lit.int .i64 e.hn).wf = true ∧ (Lit.int .i64 e.hg).wf = true ∧ (Lit.int .i64 e.nn).wf = true ∧ (Lit.int .i64 e.ng).wf = true) (hn : n + 1 ≤ 1000000) (h : MdIs w B b n m m1 m2) (n2 : ¬ e.op = 2) (n1 : ¬ e.op = 1) (h4 : e.er = 4) :
  Calls Try.prog 76 #[pA b, .agg (evA e), .bool (m.st e.h == 1)] w (DoPost w B b n m1 m2 (pointF m e)) := by
 have hu0 := Try.underlying125
 have hu1 := Try.underlying34
 have hu2 := Try.underlying54
 have hmf : ∀ (fn : Fn) (first cap : Array Value) (w : World), (Instr.makeFunc fn first cap).run Try.prog w = .ok (.func fn first cap) w := fun _ _ _ _ => rfl
 have HF := Aside0.mk (show pointF m e = unF (!(m.st e.h == 1)) m m by unfold pointF; rw [if_neg (fun q => n2 q.1), if_pos (.inr ⟨h4, n1⟩)]; unfold unF; by_cases ha : m.st e.h = 1 <;> simp [ha])
 have q0 : (e.op == 2) = false := beq_eq_false_iff_ne.2 (n2)
 have r0 : (e.op != 2) = true := bne_iff_ne.2 (n2)
 have q1 : (e.op == 1) = false := beq_eq_false_iff_ne.2 (n1)
 have r1 : (e.op != 1) = true := bne_iff_ne.2 (n1)
 have q4 : (e.er == 4) = true := beq_iff_eq.2 (h4)
 have r4 : (e.er != 4) = false := bne_eq_false_iff_eq.2 (h4)
 have HW := Aside0.mk hw
 have HN := Aside0.mk hn
 have HJ := Aside0.mk (Dj.start h e)
 obtain ⟨am, ham⟩ : ∃ am, (m.st e.h == 1) = am := ⟨_, rfl⟩
 (try rw [ham] at HF); rw [ham]
 clear ham hw hn h n2 n1 h4
 go_enter Try.func76, Try.ntmps76
 go_wp2_with (first | (go_at_call 73; (with_reducible refine (un_nothing (!am) HJ.out.md).mono ?_); rintro r w4 ⟨rfl, hm, hf⟩; have HM := Aside0.mk (And.intro hm (HJ.out.fr.trans hf)); clear hm hf))
 go_ret
 exact DoPost.of HF.out rfl HM.out.1 HM.out.2
theorem point_err1 {w : World} {B b n m1 m2 : Nat} {m : Md} (e : Ev) (hw : (Lit.int .i64 e.hn).wf = true ∧ (Lit.int .i64 e.hg).wf = true ∧ (Lit.int .i64 e.nn).wf = true ∧ (Lit.int .i64 e.ng).wf = true) (hn : n + 1 ≤ 1000000) (h : MdIs w B b n m m1 m2) (ho : e.op = 1) (h0 : ¬ e.er = 0) :
  Calls Try.prog 76 #[pA b, .agg (evA e), .bool (m.st e.h == 1)] w (DoPost w B b n m1 m2 (pointF m e)) := by
 have hu0 := Try.underlying125
 have hu1 := Try.underlying34
 have hu2 := Try.underlying54
 have hmf : ∀ (fn : Fn) (first cap : Array Value) (w : World), (Instr.makeFunc fn first cap).run Try.prog w = .ok (.func fn first cap) w := fun _ _ _ _ => rfl
 have HF := Aside0.mk (show pointF m e = (m, 0) by unfold pointF; rw [if_neg (fun q => by omega), if_neg (by omega), if_pos h0])
 have q0 : (e.op == 2) = false := beq_eq_false_iff_ne.2 (by omega)
 have r0 : (e.op != 2) = true := bne_iff_ne.2 (by omega)
 have q1 : (e.op == 1) = true := beq_iff_eq.2 (ho)
 have r1 : (e.op != 1) = false := bne_eq_false_iff_eq.2 (ho)
 have q4 : (e.er == 0) = false := beq_eq_false_iff_ne.2 (h0)
 have r4 : (e.er != 0) = true := bne_iff_ne.2 (h0)
 have HW := Aside0.mk hw
 have HN := Aside0.mk hn
 have HJ := Aside0.mk (Dj.start h e)
 obtain ⟨am, ham⟩ : ∃ am, (m.st e.h == 1) = am := ⟨_, rfl⟩
 (try rw [ham] at HF); rw [ham]
 clear ham hw hn h ho h0
 go_enter Try.func76, Try.ntmps76
 by_cases g4 : (e.er == 4) = true
 ·go_wp2
  go_ret
  exact DoPost.of HF.out rfl (HJ.out.md.up (by omega)) HJ.out.fr
 ·have g4 : (e.er == 4) = false := by simpa using g4
  go_wp2
  go_ret
  exact DoPost.of HF.out rfl (HJ.out.md.up (by omega)) HJ.out.fr
theorem point_err {w : World} {B b n m1 m2 : Nat} {m : Md} (e : Ev) (hw : (Lit.int .i64 e.hn).wf = true ∧ (Lit.int .i64 e.hg).wf = true ∧ (Lit.int .i64 e.nn).wf = true ∧ (Lit.int .i64 e.ng).wf = true) (hn : n + 1 ≤ 1000000) (h : MdIs w B b n m m1 m2) (n2 : ¬ e.op = 2) (h0 : ¬ e.er = 0) (h4 : ¬ e.er = 4) :
  Calls Try.prog 76 #[pA b, .agg (evA e), .bool (m.st e.h == 1)] w (DoPost w B b n m1 m2 (pointF m e)) := by
 have hu0 := Try.underlying125
 have hu1 := Try.underlying34
 have hu2 := Try.underlying54
 have hmf : ∀ (fn : Fn) (first cap : Array Value) (w : World), (Instr.makeFunc fn first cap).run Try.prog w = .ok (.func fn first cap) w := fun _ _ _ _ => rfl
 have HF := Aside0.mk (show pointF m e = (m, 0) by unfold pointF; rw [if_neg (fun q => n2 q.1), if_neg (by omega), if_pos h0])
 have q0 : (e.op == 2) = false := beq_eq_false_iff_ne.2 (n2)
 have r0 : (e.op != 2) = true := bne_iff_ne.2 (n2)
 have q1 : (e.er == 4) = false := beq_eq_false_iff_ne.2 (h4)
 have r1 : (e.er != 4) = true := bne_iff_ne.2 (h4)
 have q4 : (e.er == 0) = false := beq_eq_false_iff_ne.2 (h0)
 have r4 : (e.er != 0) = true := bne_iff_ne.2 (h0)
 have HW := Aside0.mk hw
 have HN := Aside0.mk hn
 have HJ := Aside0.mk (Dj.start h e)
 obtain ⟨am, ham⟩ : ∃ am, (m.st e.h == 1) = am := ⟨_, rfl⟩
 (try rw [ham] at HF); rw [ham]
 clear ham hw hn h n2 h0 h4
 go_enter Try.func76, Try.ntmps76
 go_wp2
 go_ret
 exact DoPost.of HF.out rfl (HJ.out.md.up (by omega)) HJ.out.fr
theorem point_migrate {w : World} {B b n m1 m2 : Nat} {m : Md} (e : Ev) (hw : (Lit.int .i64 e.hn).wf = true ∧ (Lit.int .i64 e.hg).wf = true ∧ (Lit.int .i64 e.nn).wf = true ∧ (Lit.int .i64 e.ng).wf = true) (hn : n + 1 ≤ 1000000) (h : MdIs w B b n m m1 m2) (ho : e.op = 4) (h0 : e.er = 0) :
  Calls Try.prog 76 #[pA b, .agg (evA e), .bool (m.st e.h == 1)] w (DoPost w B b n m1 m2 (pointF m e)) := by
 have hu0 := Try.underlying125
 have hu1 := Try.underlying34
 have hu2 := Try.underlying54
 have hmf : ∀ (fn : Fn) (first cap : Array Value) (w : World), (Instr.makeFunc fn first cap).run Try.prog w = .ok (.func fn first cap) w := fun _ _ _ _ => rfl
 have HF := Aside0.mk (show pointF m e = unF (m.st e.h == 1) m m by unfold pointF; rw [if_neg (by omega), if_neg (by omega), if_neg (by omega), if_neg (by omega), if_pos ho]; unfold unF; by_cases ha : m.st e.h = 1 <;> simp [ha])
 have q0 : (e.op == 2) = false := beq_eq_false_iff_ne.2 (by omega)
 have r0 : (e.op != 2) = true := bne_iff_ne.2 (by omega)
 have q1 : (e.op == 1) = false := beq_eq_false_iff_ne.2 (by omega)
 have r1 : (e.op != 1) = true := bne_iff_ne.2 (by omega)
 have q2 : (e.op == 4) = true := beq_iff_eq.2 (ho)
 have r2 : (e.op != 4) = false := bne_eq_false_iff_eq.2 (ho)
 have q5 : (e.er == 4) = false := beq_eq_false_iff_ne.2 (by omega)
 have r5 : (e.er != 4) = true := bne_iff_ne.2 (by omega)
 have q4 : (e.er == 0) = true := beq_iff_eq.2 (h0)
 have r4 : (e.er != 0) = false := bne_eq_false_iff_eq.2 (h0)
 have HW := Aside0.mk hw
 have HN := Aside0.mk hn
 have HJ := Aside0.mk (Dj.start h e)
 obtain ⟨am, ham⟩ : ∃ am, (m.st e.h == 1) = am := ⟨_, rfl⟩
 (try rw [ham] at HF); rw [ham]
 clear ham hw hn h ho h0
 go_enter Try.func76, Try.ntmps76
 go_wp2_with (first | (go_at_call 73; (with_reducible refine (un_nothing am HJ.out.md).mono ?_); rintro r w4 ⟨rfl, hm, hf⟩; have HM := Aside0.mk (And.intro hm (HJ.out.fr.trans hf)); clear hm hf))
 go_ret
 exact DoPost.of HF.out rfl HM.out.1 HM.out.2
theorem point_rearm_node {w : World} {B b n m1 m2 : Nat} {m : Md} (e : Ev) (hw : (Lit.int .i64 e.hn).wf = true ∧ (Lit.int .i64 e.hg).wf = true ∧ (Lit.int .i64 e.nn).wf = true ∧ (Lit.int .i64 e.ng).wf = true) (hn : n + 1 ≤ 1000000) (h : MdIs w B b n m m1 m2) (n2 : ¬ e.op = 2) (n1 : ¬ e.op = 1) (n4 : ¬ e.op = 4) (h0 : e.er = 0) (hx : ¬ e.nn = e.hn) :
  Calls Try.prog 76 #[pA b, .agg (evA e), .bool (m.st e.h == 1)] w (DoPost w B b n m1 m2 (pointF m e)) := by
 have hu0 := Try.underlying125
 have hu1 := Try.underlying34
 have hu2 := Try.underlying54
 have hmf : ∀ (fn : Fn) (first cap : Array Value) (w : World), (Instr.makeFunc fn first cap).run Try.prog w = .ok (.func fn first cap) w := fun _ _ _ _ => rfl
 have HF := Aside0.mk (show pointF m e = unF false ((m.end_ e.h 4).arm e.new e.t) m by unfold pointF; rw [if_neg (by omega), if_neg (by omega), if_neg (by omega), if_neg n1, if_neg n4]; rw [if_neg (fun q => hx q.2.1)]; rfl)
 have q0 : (e.op == 2) = false := beq_eq_false_iff_ne.2 (n2)
 have r0 : (e.op != 2) = true := bne_iff_ne.2 (n2)
 have q1 : (e.op == 1) = false := beq_eq_false_iff_ne.2 (n1)
 have r1 : (e.op != 1) = true := bne_iff_ne.2 (n1)
 have q2 : (e.op == 4) = false := beq_eq_false_iff_ne.2 (n4)
 have r2 : (e.op != 4) = true := bne_iff_ne.2 (n4)
 have q5 : (e.er == 4) = false := beq_eq_false_iff_ne.2 (by omega)
 have r5 : (e.er != 4) = true := bne_iff_ne.2 (by omega)
 have q4 : (e.er == 0) = true := beq_iff_eq.2 (h0)
 have r4 : (e.er != 0) = false := bne_eq_false_iff_eq.2 (h0)
 have g0 : (e.nn == e.hn) = false := beq_eq_false_iff_ne.2 (hx)
 have HW := Aside0.mk hw
 have HN := Aside0.mk hn
 have HJ := Aside0.mk (Dj.start h e)
 obtain ⟨am, ham⟩ : ∃ am, (m.st e.h == 1) = am := ⟨_, rfl⟩
 (try rw [ham] at HF); rw [ham]
 clear ham hw hn h n2 n1 n4 h0 hx
 cases am with
 | true =>
  go_enter Try.func76, Try.ntmps76
  go_wp2_with (first | (go_at_call 73; (with_reducible refine (un_rearm false HN.out HW.out.2.2.1 HW.out.2.2.2 HW.out.1 HW.out.2.1 HJ.out.md HJ.out.eb HJ.out.xb).mono ?_); rintro r w4 ⟨rfl, hm, hf⟩; have HM := Aside0.mk (And.intro hm (HJ.out.fr.trans hf)); clear hm hf))
  go_ret
  exact DoPost.of (HF.out.trans (by rfl)) rfl HM.out.1 HM.out.2
 | false =>
  go_enter Try.func76, Try.ntmps76
  go_wp2_with (first | (go_at_call 73; (with_reducible refine (un_rearm false HN.out HW.out.2.2.1 HW.out.2.2.2 HW.out.1 HW.out.2.1 HJ.out.md HJ.out.eb HJ.out.xb).mono ?_); rintro r w4 ⟨rfl, hm, hf⟩; have HM := Aside0.mk (And.intro hm (HJ.out.fr.trans hf)); clear hm hf))
  go_ret
  exact DoPost.of (HF.out.trans (by rfl)) rfl HM.out.1 HM.out.2
theorem point_rearm {w : World} {B b n m1 m2 : Nat} {m : Md} (e : Ev) (hw : (Lit.int .i64 e.hn).wf = true ∧ (Lit.int .i64 e.hg).wf = true ∧ (Lit.int .i64 e.nn).wf = true ∧ (Lit.int .i64 e.ng).wf = true) (hn : n + 1 ≤ 1000000) (h : MdIs w B b n m m1 m2) (n2 : ¬ e.op = 2) (n1 : ¬ e.op = 1) (n4 : ¬ e.op = 4) (h0 : e.er = 0) (hx : e.nn = e.hn) :
  Calls Try.prog 76 #[pA b, .agg (evA e), .bool (m.st e.h == 1)] w (DoPost w B b n m1 m2 (pointF m e)) := by
 have hu0 := Try.underlying125
 have hu1 := Try.underlying34
 have hu2 := Try.underlying54
 have hmf : ∀ (fn : Fn) (first cap : Array Value) (w : World), (Instr.makeFunc fn first cap).run Try.prog w = .ok (.func fn first cap) w := fun _ _ _ _ => rfl
 have HF := Aside0.mk (show pointF m e = unF ((m.st e.h == 1) && (e.ng == wrap64 (e.hg + 1))) ((m.end_ e.h 4).arm e.new e.t) m by unfold pointF; rw [if_neg (by omega), if_neg (by omega), if_neg (by omega), if_neg n1, if_neg n4]; unfold unF; by_cases ha : m.st e.h = 1 <;> by_cases hb : e.ng = wrap64 (e.hg + 1) <;> simp [ha, hb, hx])
 have q0 : (e.op == 2) = false := beq_eq_false_iff_ne.2 (n2)
 have r0 : (e.op != 2) = true := bne_iff_ne.2 (n2)
 have q1 : (e.op == 1) = false := beq_eq_false_iff_ne.2 (n1)
 have r1 : (e.op != 1) = true := bne_iff_ne.2 (n1)
 have q2 : (e.op == 4) = false := beq_eq_false_iff_ne.2 (n4)
 have r2 : (e.op != 4) = true := bne_iff_ne.2 (n4)
 have q5 : (e.er == 4) = false := beq_eq_false_iff_ne.2 (by omega)
 have r5 : (e.er != 4) = true := bne_iff_ne.2 (by omega)
 have q4 : (e.er == 0) = true := beq_iff_eq.2 (h0)
 have r4 : (e.er != 0) = false := bne_eq_false_iff_eq.2 (h0)
 have g0 : (e.nn == e.hn) = true := beq_iff_eq.2 (hx)
 have HW := Aside0.mk hw
 have HN := Aside0.mk hn
 have HJ := Aside0.mk (Dj.start h e)
 obtain ⟨am, ham⟩ : ∃ am, (m.st e.h == 1) = am := ⟨_, rfl⟩
 (try rw [ham] at HF); rw [ham]
 clear ham hw hn h n2 n1 n4 h0 hx
 cases am with
 | true =>
  go_enter Try.func76, Try.ntmps76
  go_wp2_with (first | (go_at_call 73; (with_reducible refine (un_rearm (e.ng == wrap64 (e.hg + 1)) HN.out HW.out.2.2.1 HW.out.2.2.2 HW.out.1 HW.out.2.1 HJ.out.md HJ.out.eb HJ.out.xb).mono ?_); rintro r w4 ⟨rfl, hm, hf⟩; have HM := Aside0.mk (And.intro hm (HJ.out.fr.trans hf)); clear hm hf))
  go_ret
  exact DoPost.of (HF.out.trans (by rfl)) rfl HM.out.1 HM.out.2
 | false =>
  go_enter Try.func76, Try.ntmps76
  go_wp2_with (first | (go_at_call 73; (with_reducible refine (un_rearm false HN.out HW.out.2.2.1 HW.out.2.2.2 HW.out.1 HW.out.2.1 HJ.out.md HJ.out.eb HJ.out.xb).mono ?_); rintro r w4 ⟨rfl, hm, hf⟩; have HM := Aside0.mk (And.intro hm (HJ.out.fr.trans hf)); clear hm hf))
  go_ret
  exact DoPost.of (HF.out.trans (by rfl)) rfl HM.out.1 HM.out.2
theorem point_start {w : World} {B b n m1 m2 : Nat} {m : Md} (e : Ev) (hw : (Lit.int .i64 e.hn).wf = true ∧ (Lit.int .i64 e.hg).wf = true ∧ (Lit.int .i64 e.nn).wf = true ∧ (Lit.int .i64 e.ng).wf = true) (hn : n + 1 ≤ 1000000) (hwl : ∀ x, (Lit.int .i64 ((m.lst x).getD 0)).wf = true) (h : MdIs w B b n m m1 m2) (ho : e.op = 1) (h0 : e.er = 0) :
  Calls Try.prog 76 #[pA b, .agg (evA e), .bool (m.st e.h == 1)] w (DoPost w B b n m1 m2 (pointF m e)) := by
 have hu0 := Try.underlying125
 have hu1 := Try.underlying34
 have hu2 := Try.underlying54
 have hmf : ∀ (fn : Fn) (first cap : Array Value) (w : World), (Instr.makeFunc fn first cap).run Try.prog w = .ok (.func fn first cap) w := fun _ _ _ _ => rfl
 have HF := Aside0.mk (show pointF m e = unF (!(m.lst e.nn).isSome || (m.st (e.nn, (m.lst e.nn).getD 0) != 1 && decide ((m.lst e.nn).getD 0 < e.ng))) (m.arm e.new e.t) m by unfold pointF Md.startOk; rw [if_neg (by omega), if_neg (by omega), if_neg (by omega), if_pos ho]; rfl)
 have q0 : (e.op == 2) = false := beq_eq_false_iff_ne.2 (by omega)
 have r0 : (e.op != 2) = true := bne_iff_ne.2 (by omega)
 have q1 : (e.op == 1) = true := beq_iff_eq.2 (ho)
 have r1 : (e.op != 1) = false := bne_eq_false_iff_eq.2 (ho)
 have q5 : (e.er == 4) = false := beq_eq_false_iff_ne.2 (by omega)
 have r5 : (e.er != 4) = true := bne_iff_ne.2 (by omega)
 have q4 : (e.er == 0) = true := beq_iff_eq.2 (h0)
 have r4 : (e.er != 0) = false := bne_eq_false_iff_eq.2 (h0)
 have HW := Aside0.mk hw
 have HN := Aside0.mk hn
 have HJ := Aside0.mk (Dj.start h e)
 obtain ⟨am, ham⟩ : ∃ am, (m.st e.h == 1) = am := ⟨_, rfl⟩
 rw [ham]
 clear ham hw hn h ho h0
 have hl := fun q => HJ.out.md.lookL HW.out.2.2.1 (((w.alloc (.cells #[pA b] 58)).alloc (.cells (evA e) 54)).drewN q) rfl
 obtain ⟨ls, hls⟩ : ∃ ls, m.lst e.nn = ls := ⟨_, rfl⟩
 rw [hls] at hl HF
 obtain ⟨g, hg⟩ : ∃ g, ls.getD 0 = g := ⟨_, rfl⟩
 obtain ⟨md, hmd⟩ : ∃ md, ls.isSome = md := ⟨_, rfl⟩
 have HG := Aside0.mk (show (Lit.int .i64 g).wf = true by rw [← hg, ← hls]; exact hwl e.nn)
 rw [hg, hmd] at hl HF
 have CS : Aside0 (∀ W, Dj w W B b n m1 m2 m e → Calls Try.prog 33 #[pA b, .agg #[.int .i64 e.nn, .int .i64 g]] W fun r w' => r = .returned (.int .i64 (m.st (e.nn, g))) ∧ Below W.heap.size W w') := ⟨fun W hW => model_status e.nn g HW.out.2.2.1 HG.out hW.md⟩
 obtain ⟨sg, hsg⟩ : ∃ sg, m.st (e.nn, g) = sg := ⟨_, rfl⟩
 rw [hsg] at CS HF
 have HOK := HF
 clear hg hmd hls hsg hwl HF
 have hcx := fun i => blk_cell HJ.out.xb i; have hce := fun i => blk_cell HJ.out.eb i; have hlx := blk_lt HJ.out.xb; have hle := blk_lt HJ.out.eb; have hcm := fun i => HJ.out.md.cell i; have hlm := HJ.out.md.lt
 go_enter Try.func76, Try.ntmps76
 go_wp2
 go_quiet (fail)
 clear hl
 cases md with
 | false =>
  go_wp2_with (first | (go_at_call 33; (with_reducible refine (CS.out _ (HJ.out.drewN _)).mono ?_); rintro r w2 ⟨rfl, hb2⟩; have HJ2 := Aside0.mk ((HJ.out.drewN _).step hb2); clear hb2 hcx hce hlx hle hcm hlm; have HJ := HJ2; have hcx := fun i => blk_cell HJ.out.xb i; have hce := fun i => blk_cell HJ.out.eb i; have hlx := blk_lt HJ.out.xb; have hle := blk_lt HJ.out.eb; have hcm := fun i => HJ.out.md.cell i; have hlm := HJ.out.md.lt) | (go_at_call 73; (with_reducible refine (un_start true (by have := HN.out; omega) HW.out.2.2.1 HW.out.2.2.2 HJ2.out.md HJ2.out.eb HJ2.out.xb).mono ?_); rintro r w4 ⟨rfl, hm, hf⟩; have HM := Aside0.mk (And.intro hm (HJ2.out.fr.trans hf)); clear hm hf))
  go_ret
  exact DoPost.of (HOK.out.trans (by rfl)) rfl HM.out.1 HM.out.2
 | true =>
  by_cases hs1 : sg = 1
  ·have g1 : (sg != 1) = false := bne_eq_false_iff_eq.2 (hs1)
   have HS1 := Aside0.mk g1
   clear hs1
   go_wp2_with (first | (go_at_call 33; (with_reducible refine (CS.out _ (HJ.out.drewN _)).mono ?_); rintro r w2 ⟨rfl, hb2⟩; have HJ2 := Aside0.mk ((HJ.out.drewN _).step hb2); clear hb2 hcx hce hlx hle hcm hlm; have HJ := HJ2; have hcx := fun i => blk_cell HJ.out.xb i; have hce := fun i => blk_cell HJ.out.eb i; have hlx := blk_lt HJ.out.xb; have hle := blk_lt HJ.out.eb; have hcm := fun i => HJ.out.md.cell i; have hlm := HJ.out.md.lt) | (go_at_call 73; (with_reducible refine (un_start false (by have := HN.out; omega) HW.out.2.2.1 HW.out.2.2.2 HJ2.out.md HJ2.out.eb HJ2.out.xb).mono ?_); rintro r w4 ⟨rfl, hm, hf⟩; have HM := Aside0.mk (And.intro hm (HJ2.out.fr.trans hf)); clear hm hf))
   go_ret
   exact DoPost.of (HOK.out.trans (by rw [HS1.out]; rfl)) rfl HM.out.1 HM.out.2
  ·have g1 : (sg != 1) = true := bne_iff_ne.2 (hs1)
   have HS1 := Aside0.mk g1
   clear hs1
   go_wp2_with (first | (go_at_call 33; (with_reducible refine (CS.out _ (HJ.out.drewN _)).mono ?_); rintro r w2 ⟨rfl, hb2⟩; have HJ2 := Aside0.mk ((HJ.out.drewN _).step hb2); clear hb2 hcx hce hlx hle hcm hlm; have HJ := HJ2; have hcx := fun i => blk_cell HJ.out.xb i; have hce := fun i => blk_cell HJ.out.eb i; have hlx := blk_lt HJ.out.xb; have hle := blk_lt HJ.out.eb; have hcm := fun i => HJ.out.md.cell i; have hlm := HJ.out.md.lt) | (go_at_call 73; (with_reducible refine (un_start (decide (g < e.ng)) (by have := HN.out; omega) HW.out.2.2.1 HW.out.2.2.2 HJ2.out.md HJ2.out.eb HJ2.out.xb).mono ?_); rintro r w4 ⟨rfl, hm, hf⟩; have HM := Aside0.mk (And.intro hm (HJ2.out.fr.trans hf)); clear hm hf))
   go_ret
   exact DoPost.of (HOK.out.trans (by rw [HS1.out]; rfl)) rfl HM.out.1 HM.out.2
theorem point_any {w : World} {B b n m1 m2 : Nat} {m : Md} (e : Ev) (hw : (Lit.int .i64 e.hn).wf = true ∧ (Lit.int .i64 e.hg).wf = true ∧ (Lit.int .i64 e.nn).wf = true ∧ (Lit.int .i64 e.ng).wf = true) (hn : n + 1 ≤ 1000000) (hwl : ∀ x, (Lit.int .i64 ((m.lst x).getD 0)).wf = true) (h : MdIs w B b n m m1 m2) :
  Calls Try.prog 76 #[pA b, .agg (evA e), .bool (m.st e.h == 1)] w (DoPost w B b n m1 m2 (pointF m e)) := by
 by_cases n2 : e.op = 2
 ·cases hy : e.y with
  | true => exact point_cancel e hw hn h n2 hy
  | false => exact point_cancel_no e hw hn h n2 hy
 by_cases h0 : e.er = 0
 ·by_cases n1 : e.op = 1
  ·exact point_start e hw hn hwl h n1 h0
  by_cases n4 : e.op = 4
  ·exact point_migrate e hw hn h n4 h0
  by_cases hx : e.nn = e.hn
  ·exact point_rearm e hw hn h n2 n1 n4 h0 hx
  ·exact point_rearm_node e hw hn h n2 n1 n4 h0 hx
 ·by_cases n1 : e.op = 1
  ·exact point_err1 e hw hn h n1 h0
  ·by_cases h4 : e.er = 4
   ·exact point_stale e hw hn h n2 n1 h4
   ·exact point_err e hw hn h n2 h0 h4
end Go.Proofs.Ythniclbmpeklmaa.Ju
end
section
set_option maxHeartbeats 4000000
set_option maxRecDepth 100000
namespace Go.Proofs.Ythniclbmpeklmaa.Ju
open Go.RowKit Go.Maps Go.Proofs.YthniclbmpeklmaaW.PrintWords Go.Proofs.YthniclbmpeklmaaW.PrintLast Go.Proofs.YthniclbmpeklmaaW.PrintMore Go.Proofs.Ythniclbmpeklmaa.Mp Go.Proofs.Ythniclbmpeklmaa.Au
set_option linter.unusedVariables false
set_option linter.unusedSimpArgs false
theorem right_run (e : Ev) (W : World) : Calls Try.prog 65 #[.agg (evA e)] W fun r w' => r = .returned (.bool (rightJ e)) ∧ Below W.heap.size W w' := Ev.event_right e.k e.wk e.op e.hn e.hg e.nn e.ng e.t e.a e.u e.y e.er W
theorem gen_world' {P : Program} {c : Code} {Q : Exit → Act → World → Prop} {a : Act} {w : World} (R : World → Prop) (h : R w) (k : ∀ W, R W → c.wp P Q a W) : c.wp P Q a w := k w h
structure Dk (w W : World) (B b n m1 m2 : Nat) (m : Md) (e : Ev) (fb : Nat) : Prop where
 dj : Dj w W B b n m1 m2 m e
 fb : W.heap[fb]? = some (.cells #[.int .i64 (m.st e.h), .int .i64 (m.dl e.h)] 122 (0, 0))
section
variable {w W W1 : World} {B b n m1 m2 fb : Nat} {m : Md} {e : Ev}
theorem Dk.step (h : Dk w W B b n m1 m2 m e fb) (hb : Below W.heap.size W W1) : Dk w W1 B b n m1 m2 m e fb := ⟨h.dj.step hb, blk_below h.fb hb⟩
theorem Dk.drew (h : Dk w W B b n m1 m2 m e fb) : Dk w W.drew B b n m1 m2 m e fb := ⟨h.dj.drew, h.fb⟩
theorem Dk.cells (h : Dk w W B b n m1 m2 m e fb) : (∀ i, W.cell? ⟨b, i, none⟩ = (mdA m m1 m2)[i]?) ∧ (∀ i, W.cell? ⟨w.heap.size, i, none⟩ = (#[pA b] : Array Value)[i]?) ∧ (∀ i, W.cell? ⟨w.heap.size + 1, i, none⟩ = (evA e)[i]?) ∧ (∀ i, W.cell? ⟨fb, i, none⟩ = (#[.int .i64 (m.st e.h), .int .i64 (m.dl e.h)] : Array Value)[i]?) := ⟨h.dj.cells.1, h.dj.cells.2.1, h.dj.cells.2.2, fun i => blk_cell h.fb i⟩
end
def doR.T7 : Bool × List (List Nat × List Nat) := (true, [([], []), ([0], [0]), ([], []), ([2], [2]), ([3], [3]), ([4], [4]), ([5], [5]), ([1, 6], [1, 6]), ([], []), ([7, 8], [7, 8]), ([9, 9, 0, 1, 2, 3, 4, 5, 6, 7, 8, 9], [9])])
def doR.B7 : List Nat := [0, 1, 0, 4, 12, 28, 60, 127, 0, 511, 1023]
theorem doR.tab7 : rtab .any (opsOf Try.f43 7) = doR.T7 := by kernel_rfl
theorem doR.bits7 : waitsOk doR.T7.2 doR.B7 = true := by kernel_rfl
def doR.T9 : Bool × List (List Nat × List Nat) := (true, [([], []), ([0], [0]), ([1], [1]), ([2, 1], [1, 2]), ([1], [1]), ([4, 1], [1, 4]), ([3, 5, 1], [1, 3, 5]), ([1, 6], [1, 6]), ([7, 1], [7]), ([8], [8]), ([9, 8], [8, 9]), ([8], [8]), ([11, 8], [8, 11]), ([12, 8], [8, 12]), ([13, 8], [8, 13]), ([10, 14, 8], [8, 10, 14]), ([8, 15], [8, 15]), ([], []), ([], []), ([18], [18]), ([17, 19, 8], [17, 19]), ([16, 20, 20], [16, 20]), ([21, 21, 0, 1, 2, 3, 4, 5, 6, 7, 8, 9, 10, 11, 12, 13, 14, 15, 16, 17, 18, 19, 20, 21], [21])])
def doR.B9 : List Nat := [0, 1, 3, 7, 3, 19, 63, 127, 255, 511, 1023, 511, 2559, 6655, 14847, 32767, 65535, 0, 0, 262144, 918015, 2097151, 4194303]
theorem doR.tab9 : rtab .any (opsOf Try.f43 9) = doR.T9 := by kernel_rfl
theorem doR.bits9 : waitsOk doR.T9.2 doR.B9 = true := by kernel_rfl
def doR.T3 : Bool × List (List Nat × List Nat) := (true, [([], []), ([0], [0]), ([1], [1]), ([2], [2]), ([], []), ([4], [4]), ([3, 5], [3, 5]), ([], []), ([7, 6, 0, 1, 2, 3, 4, 5, 6, 7], [6, 7])])
def doR.B3 : List Nat := [0, 1, 3, 7, 0, 16, 63, 0, 255]
theorem doR.tab3 : rtab .any (opsOf Try.f43 3) = doR.T3 := by kernel_rfl
theorem doR.bits3 : waitsOk doR.T3.2 doR.B3 = true := by kernel_rfl
theorem do_wrong {w : World} {B b n m1 m2 : Nat} {m : Md} (e : Ev) (hw : (Lit.int .i64 e.hn).wf = true ∧ (Lit.int .i64 e.hg).wf = true ∧ (Lit.int .i64 e.nn).wf = true ∧ (Lit.int .i64 e.ng).wf = true) (hn : n + 1 ≤ 1000000) (hwl : ∀ x, (Lit.int .i64 ((m.lst x).getD 0)).wf = true) (h : MdIs w B b n m m1 m2) (hr : rightJ e = false) :
  Calls Try.prog 43 #[pA b, .agg (evA e)] w (DoPost w B b n m1 m2 (doF m e)) := by
 have hu0 := Try.underlying125
 have hu1 := Try.underlying34
 have hu2 := Try.underlying54
 have hu3 := Try.underlying122
 have hmf : ∀ (fn : Fn) (first cap : Array Value) (w : World), (Instr.makeFunc fn first cap).run Try.prog w = .ok (.func fn first cap) w := fun _ _ _ _ => rfl
 have HF := Aside0.mk (show doF m e = (m, 8) by unfold doF; rw [if_pos hr])
 have CR := Aside0.mk (fun W => right_run e W)
 rw [hr] at CR
 have HW := Aside0.mk hw
 have HN := Aside0.mk hn
 have HWL := Aside0.mk hwl
 have HJ := Aside0.mk (Dj.start h e)
 clear hw hn hwl h hr
 have hcx := fun i => blk_cell HJ.out.xb i
 have hce := fun i => blk_cell HJ.out.eb i
 have hlx := blk_lt HJ.out.xb
 have hle := blk_lt HJ.out.eb
 have hcm := fun i => HJ.out.md.cell i
 have hlm := HJ.out.md.lt
 go_enter Try.func43, Try.ntmps43
 go_wp2_with (first | (go_at_call 65; (with_reducible refine (CR.out _).mono ?_); rintro r w2 ⟨rfl, hb2⟩; have HJ2 := Aside0.mk (HJ.out.step hb2); clear hb2 hcx hce hlx hle hcm hlm; have HJ := HJ2; have hcx := fun i => blk_cell HJ.out.xb i; have hce := fun i => blk_cell HJ.out.eb i; have hlx := blk_lt HJ.out.xb; have hle := blk_lt HJ.out.eb; have hcm := fun i => HJ.out.md.cell i; have hlm := HJ.out.md.lt))
 go_ret
 exact DoPost.of HF.out rfl (HJ.out.md.up (by omega)) HJ.out.fr
theorem do_other {w : World} {B b n m1 m2 : Nat} {m : Md} (e : Ev) (hw : (Lit.int .i64 e.hn).wf = true ∧ (Lit.int .i64 e.hg).wf = true ∧ (Lit.int .i64 e.nn).wf = true ∧ (Lit.int .i64 e.ng).wf = true) (hn : n + 1 ≤ 1000000) (hwl : ∀ x, (Lit.int .i64 ((m.lst x).getD 0)).wf = true) (h : MdIs w B b n m m1 m2) (hr : rightJ e = true) (hk : e.k = 2 ∨ e.k = 5) :
  Calls Try.prog 43 #[pA b, .agg (evA e)] w (DoPost w B b n m1 m2 (doF m e)) := by
 have hu0 := Try.underlying125
 have hu1 := Try.underlying34
 have hu2 := Try.underlying54
 have hu3 := Try.underlying122
 have hmf : ∀ (fn : Fn) (first cap : Array Value) (w : World), (Instr.makeFunc fn first cap).run Try.prog w = .ok (.func fn first cap) w := fun _ _ _ _ => rfl
 have HF := Aside0.mk (show doF m e = (m, 8) by unfold doF; rw [if_neg (by rw [hr]; simp), if_neg (by omega), if_neg (by omega), if_neg (by omega)])
 have k1 : (e.k == 1) = false := beq_eq_false_iff_ne.2 (by omega)
 have k4 : (e.k == 4) = false := beq_eq_false_iff_ne.2 (by omega)
 have k3 : (e.k == 3) = false := beq_eq_false_iff_ne.2 (by omega)
 have CR := Aside0.mk (fun W => right_run e W)
 rw [hr] at CR
 have HW := Aside0.mk hw
 have HN := Aside0.mk hn
 have HWL := Aside0.mk hwl
 have HJ := Aside0.mk (Dj.start h e)
 clear hw hn hwl h hr hk
 have hcx := fun i => blk_cell HJ.out.xb i
 have hce := fun i => blk_cell HJ.out.eb i
 have hlx := blk_lt HJ.out.xb
 have hle := blk_lt HJ.out.eb
 have hcm := fun i => HJ.out.md.cell i
 have hlm := HJ.out.md.lt
 go_enter Try.func43, Try.ntmps43
 go_wp2_with (first | (go_at_call 65; (with_reducible refine (CR.out _).mono ?_); rintro r w2 ⟨rfl, hb2⟩; have HJ2 := Aside0.mk (HJ.out.step hb2); clear hb2 hcx hce hlx hle hcm hlm; have HJ := HJ2; have hcx := fun i => blk_cell HJ.out.xb i; have hce := fun i => blk_cell HJ.out.eb i; have hlx := blk_lt HJ.out.xb; have hle := blk_lt HJ.out.eb; have hcm := fun i => HJ.out.md.cell i; have hlm := HJ.out.md.lt))
 obtain ⟨kl, hkl⟩ := keyH e.hn e.hg HW.out.1 HW.out.2.1
 refine start_ (n := 9) (S := (fun w' => (∀ i, w'.cell? ⟨b, i, none⟩ = (mdA m m1 m2)[i]?) ∧ (∀ i, w'.cell? ⟨w.heap.size, i, none⟩ = (#[pA b] : Array Value)[i]?) ∧ (∀ i, w'.cell? ⟨w.heap.size + 1, i, none⟩ = (evA e)[i]?) ∧ (Instr.lookup 123 (.map (some m1)) (haV e.h) false).run Try.prog w' = .ok (.agg #[.int .i64 (m.st e.h), .int .i64 (m.dl e.h)]) w')) (ds := [8]) #[ff,ff,ff,ff,ff,ff,ff,ff,ff] (by kernel_rfl) rfl rfl ⟨HJ.out.drew.cells.1, HJ.out.drew.cells.2.1, HJ.out.drew.cells.2.2, HJ.out.drew.md.look hkl _ rfl⟩ (fun hHeld => ?_)
 refine with_tabW doR.tab3 doR.bits3 (fun HT_ HW_ => ?_)
 have HJ3 := Aside0.mk HJ.out.drew
 generalize World.drew _ = w3 at HJ3 hHeld ⊢
 clear HJ hcx hce hlx hle hcm hlm
 have hlx := blk_lt HJ3.out.xb
 have hle := blk_lt HJ3.out.eb
 have hlm := HJ3.out.md.lt
 refine pure_ (i := 4) (N := (some 14)) (v := ?_) (a' := ?_) #[ff,ff,ff,ff,tt,ff,ff,ff,ff] rfl rfl (any_of HT_.out (by kernel_rfl)) (fun _ _ _ h => h) (Or.inl ⟨by rfl, ?_⟩) ?_ ?_
 rotate_left
 ·intro w'
  go_simp
  with_reducible rfl
 rotate_left
 ·simp only [Act.put, sQ0, sQ1, sQ2, i64_w]
  rfl
 refine take_ (i := 0) (N := (some 10)) (v := ?_) (a' := ?_) #[tt,ff,ff,ff,tt,ff,ff,ff,ff] rfl rfl (take_ofW HT_.out HW_.out (by kernel_rfl)) (fun _ _ _ h => h) (Or.inl ⟨by rfl, ?_⟩) hHeld ?_ ?_
 rotate_left
 ·rintro w' ⟨s0, s1, s2, s3⟩
  go_simp
  with_reducible rfl
 rotate_left
 ·simp only [Act.put, sQ0, sQ1, sQ2, i64_w]
  rfl
 refine pure_ (i := 1) (N := (some 11)) (v := ?_) (a' := ?_) #[tt,tt,ff,ff,tt,ff,ff,ff,ff] rfl rfl (any_of HT_.out (by kernel_rfl)) (fun _ _ _ h => h) (Or.inl ⟨by rfl, ?_⟩) ?_ ?_
 rotate_left
 ·intro w'
  go_simp
  with_reducible rfl
 rotate_left
 ·simp only [Act.put, sQ0, sQ1, sQ2, i64_w]
  rfl
 refine pure_ (i := 2) (N := (some 12)) (v := ?_) (a' := ?_) #[tt,tt,tt,ff,tt,ff,ff,ff,ff] rfl rfl (any_of HT_.out (by kernel_rfl)) (fun _ _ _ h => h) (Or.inl ⟨by rfl, ?_⟩) ?_ ?_
 rotate_left
 ·intro w'
  go_simp
  with_reducible rfl
 rotate_left
 ·simp only [Act.put, sQ0, sQ1, sQ2, i64_w]
  rfl
 refine take_ (i := 3) (N := (some 13)) (v := ?_) (a' := ?_) #[tt,tt,tt,tt,tt,ff,ff,ff,ff] rfl rfl (take_ofW HT_.out HW_.out (by kernel_rfl)) (fun _ _ _ h => h) (Or.inl ⟨by rfl, ?_⟩) hHeld ?_ ?_
 rotate_left
 ·rintro w' ⟨s0, s1, s2, s3⟩
  go_simp
  with_reducible rfl
 rotate_left
 ·simp only [Act.put, sQ0, sQ1, sQ2, i64_w]
  rfl
 refine take_ (i := 5) (N := (some 15)) (v := ?_) (a' := ?_) #[tt,tt,tt,tt,tt,tt,ff,ff,ff] rfl rfl (take_ofW HT_.out HW_.out (by kernel_rfl)) (fun _ _ _ h => h) (Or.inl ⟨by rfl, ?_⟩) hHeld ?_ ?_
 rotate_left
 ·rintro w' ⟨s0, s1, s2, s3⟩
  go_simp
  with_reducible rfl
 rotate_left
 ·simp only [Act.put, sQ0, sQ1, sQ2, i64_w]
  rfl
 refine take_ (i := 6) (N := (some 16)) (v := ?_) (a' := ?_) #[tt,tt,tt,tt,tt,tt,tt,ff,ff] rfl rfl (take_ofW HT_.out HW_.out (by kernel_rfl)) (fun _ _ _ h => h) (Or.inl ⟨by rfl, ?_⟩) hHeld ?_ ?_
 rotate_left
 ·rintro w' ⟨s0, s1, s2, s3⟩
  go_simp
  with_reducible rfl
 rotate_left
 ·simp only [Act.put, sQ0, sQ1, sQ2, i64_w]
  rfl
 refine one_ (i := 7) (N := (some 5)) #[tt,tt,tt,tt,tt,tt,tt,tt,ff] rfl rfl (one_of HT_.out (by kernel_rfl)) (by decide) (fun K hK => ?_)
 refine value_ (by rfl) rfl (v := .pointer (some ⟨w3.heap.size, 0, none⟩)) (w1 := w3.alloc (.cells #[.int .i64 0, .int .i64 0] 122)) (by go_simp <;> rfl) ?_
 refine hK.out _ _ ⟨(HJ3.out.alloc _).cells.1, (HJ3.out.alloc _).cells.2.1, (HJ3.out.alloc _).cells.2.2, (HJ3.out.alloc _).md.look hkl _ rfl⟩ (fun hHeld => ?_)
 clear hK K
 refine norm_ (a' := ?_) ?_ ?_
 rotate_left
 ·show Act.put _ (some 5) _ = _
  simp only [Act.put, sQ0, sQ1, sQ2, i64_w]
  rfl
 refine last_ (i := 8) (N := none) #[tt,tt,tt,tt,tt,tt,tt,tt,tt] rfl rfl (one_of HT_.out (by kernel_rfl)) (by decide) (fun K hK => ?_)
 refine skip_ (by rfl) rfl (w1 := w3.alloc (.cells #[.int .i64 (m.st e.h), .int .i64 (m.dl e.h)] 122)) (by go_simp <;> rfl) ?_
 refine hK.out _ _ ?_
 clear hK K
 refine done_ (done_of HT_.out (by kernel_rfl)) ?_
 clear hHeld
 have hcx := fun i => blk_cell (HJ3.out.alloc (.cells #[.int .i64 (m.st e.h), .int .i64 (m.dl e.h)] 122)).xb i
 have hce := fun i => blk_cell (HJ3.out.alloc (.cells #[.int .i64 (m.st e.h), .int .i64 (m.dl e.h)] 122)).eb i
 have hcm := fun i => (HJ3.out.alloc (.cells #[.int .i64 (m.st e.h), .int .i64 (m.dl e.h)] 122)).md.cell i
 have HK := Aside0.mk (show Dk w (w3.alloc (.cells #[.int .i64 (m.st e.h), .int .i64 (m.dl e.h)] 122)) B b n m1 m2 m e w3.heap.size from ⟨HJ3.out.alloc _, blk_new _ _⟩)
 clear hkl
 go_wp2
 go_ret
 exact DoPost.of HF.out rfl (HK.out.dj.md.up (by omega)) HK.out.dj.fr
theorem do_point {w : World} {B b n m1 m2 : Nat} {m : Md} (e : Ev) (hw : (Lit.int .i64 e.hn).wf = true ∧ (Lit.int .i64 e.hg).wf = true ∧ (Lit.int .i64 e.nn).wf = true ∧ (Lit.int .i64 e.ng).wf = true) (hn : n + 1 ≤ 1000000) (hwl : ∀ x, (Lit.int .i64 ((m.lst x).getD 0)).wf = true) (h : MdIs w B b n m m1 m2) (hr : rightJ e = true) (hk : e.k = 3) :
  Calls Try.prog 43 #[pA b, .agg (evA e)] w (DoPost w B b n m1 m2 (doF m e)) := by
 have hu0 := Try.underlying125
 have hu1 := Try.underlying34
 have hu2 := Try.underlying54
 have hu3 := Try.underlying122
 have hmf : ∀ (fn : Fn) (first cap : Array Value) (w : World), (Instr.makeFunc fn first cap).run Try.prog w = .ok (.func fn first cap) w := fun _ _ _ _ => rfl
 have HF := Aside0.mk (show doF m e = pointF m e by unfold doF; rw [if_neg (by rw [hr]; simp), if_neg (by omega), if_neg (by omega), if_pos hk])
 have k1 : (e.k == 1) = false := beq_eq_false_iff_ne.2 (by omega)
 have k4 : (e.k == 4) = false := beq_eq_false_iff_ne.2 (by omega)
 have k3 : (e.k == 3) = true := beq_iff_eq.2 (hk)
 have CR := Aside0.mk (fun W => right_run e W)
 rw [hr] at CR
 have HW := Aside0.mk hw
 have HN := Aside0.mk hn
 have HWL := Aside0.mk hwl
 have HJ := Aside0.mk (Dj.start h e)
 clear hw hn hwl h hr hk
 have hcx := fun i => blk_cell HJ.out.xb i
 have hce := fun i => blk_cell HJ.out.eb i
 have hlx := blk_lt HJ.out.xb
 have hle := blk_lt HJ.out.eb
 have hcm := fun i => HJ.out.md.cell i
 have hlm := HJ.out.md.lt
 go_enter Try.func43, Try.ntmps43
 go_wp2_with (first | (go_at_call 65; (with_reducible refine (CR.out _).mono ?_); rintro r w2 ⟨rfl, hb2⟩; have HJ2 := Aside0.mk (HJ.out.step hb2); clear hb2 hcx hce hlx hle hcm hlm; have HJ := HJ2; have hcx := fun i => blk_cell HJ.out.xb i; have hce := fun i => blk_cell HJ.out.eb i; have hlx := blk_lt HJ.out.xb; have hle := blk_lt HJ.out.eb; have hcm := fun i => HJ.out.md.cell i; have hlm := HJ.out.md.lt))
 obtain ⟨kl, hkl⟩ := keyH e.hn e.hg HW.out.1 HW.out.2.1
 refine start_ (n := 9) (S := (fun w' => (∀ i, w'.cell? ⟨b, i, none⟩ = (mdA m m1 m2)[i]?) ∧ (∀ i, w'.cell? ⟨w.heap.size, i, none⟩ = (#[pA b] : Array Value)[i]?) ∧ (∀ i, w'.cell? ⟨w.heap.size + 1, i, none⟩ = (evA e)[i]?) ∧ (Instr.lookup 123 (.map (some m1)) (haV e.h) false).run Try.prog w' = .ok (.agg #[.int .i64 (m.st e.h), .int .i64 (m.dl e.h)]) w')) (ds := [8]) #[ff,ff,ff,ff,ff,ff,ff,ff,ff] (by kernel_rfl) rfl rfl ⟨HJ.out.drew.cells.1, HJ.out.drew.cells.2.1, HJ.out.drew.cells.2.2, HJ.out.drew.md.look hkl _ rfl⟩ (fun hHeld => ?_)
 refine with_tabW doR.tab3 doR.bits3 (fun HT_ HW_ => ?_)
 have HJ3 := Aside0.mk HJ.out.drew
 generalize World.drew _ = w3 at HJ3 hHeld ⊢
 clear HJ hcx hce hlx hle hcm hlm
 have hlx := blk_lt HJ3.out.xb
 have hle := blk_lt HJ3.out.eb
 have hlm := HJ3.out.md.lt
 refine pure_ (i := 4) (N := (some 14)) (v := ?_) (a' := ?_) #[ff,ff,ff,ff,tt,ff,ff,ff,ff] rfl rfl (any_of HT_.out (by kernel_rfl)) (fun _ _ _ h => h) (Or.inl ⟨by rfl, ?_⟩) ?_ ?_
 rotate_left
 ·intro w'
  go_simp
  with_reducible rfl
 rotate_left
 ·simp only [Act.put, sQ0, sQ1, sQ2, i64_w]
  rfl
 refine take_ (i := 0) (N := (some 10)) (v := ?_) (a' := ?_) #[tt,ff,ff,ff,tt,ff,ff,ff,ff] rfl rfl (take_ofW HT_.out HW_.out (by kernel_rfl)) (fun _ _ _ h => h) (Or.inl ⟨by rfl, ?_⟩) hHeld ?_ ?_
 rotate_left
 ·rintro w' ⟨s0, s1, s2, s3⟩
  go_simp
  with_reducible rfl
 rotate_left
 ·simp only [Act.put, sQ0, sQ1, sQ2, i64_w]
  rfl
 refine pure_ (i := 1) (N := (some 11)) (v := ?_) (a' := ?_) #[tt,tt,ff,ff,tt,ff,ff,ff,ff] rfl rfl (any_of HT_.out (by kernel_rfl)) (fun _ _ _ h => h) (Or.inl ⟨by rfl, ?_⟩) ?_ ?_
 rotate_left
 ·intro w'
  go_simp
  with_reducible rfl
 rotate_left
 ·simp only [Act.put, sQ0, sQ1, sQ2, i64_w]
  rfl
 refine pure_ (i := 2) (N := (some 12)) (v := ?_) (a' := ?_) #[tt,tt,tt,ff,tt,ff,ff,ff,ff] rfl rfl (any_of HT_.out (by kernel_rfl)) (fun _ _ _ h => h) (Or.inl ⟨by rfl, ?_⟩) ?_ ?_
 rotate_left
 ·intro w'
  go_simp
  with_reducible rfl
 rotate_left
 ·simp only [Act.put, sQ0, sQ1, sQ2, i64_w]
  rfl
 refine take_ (i := 3) (N := (some 13)) (v := ?_) (a' := ?_) #[tt,tt,tt,tt,tt,ff,ff,ff,ff] rfl rfl (take_ofW HT_.out HW_.out (by kernel_rfl)) (fun _ _ _ h => h) (Or.inl ⟨by rfl, ?_⟩) hHeld ?_ ?_
 rotate_left
 ·rintro w' ⟨s0, s1, s2, s3⟩
  go_simp
  with_reducible rfl
 rotate_left
 ·simp only [Act.put, sQ0, sQ1, sQ2, i64_w]
  rfl
 refine take_ (i := 5) (N := (some 15)) (v := ?_) (a' := ?_) #[tt,tt,tt,tt,tt,tt,ff,ff,ff] rfl rfl (take_ofW HT_.out HW_.out (by kernel_rfl)) (fun _ _ _ h => h) (Or.inl ⟨by rfl, ?_⟩) hHeld ?_ ?_
 rotate_left
 ·rintro w' ⟨s0, s1, s2, s3⟩
  go_simp
  with_reducible rfl
 rotate_left
 ·simp only [Act.put, sQ0, sQ1, sQ2, i64_w]
  rfl
 refine take_ (i := 6) (N := (some 16)) (v := ?_) (a' := ?_) #[tt,tt,tt,tt,tt,tt,tt,ff,ff] rfl rfl (take_ofW HT_.out HW_.out (by kernel_rfl)) (fun _ _ _ h => h) (Or.inl ⟨by rfl, ?_⟩) hHeld ?_ ?_
 rotate_left
 ·rintro w' ⟨s0, s1, s2, s3⟩
  go_simp
  with_reducible rfl
 rotate_left
 ·simp only [Act.put, sQ0, sQ1, sQ2, i64_w]
  rfl
 refine one_ (i := 7) (N := (some 5)) #[tt,tt,tt,tt,tt,tt,tt,tt,ff] rfl rfl (one_of HT_.out (by kernel_rfl)) (by decide) (fun K hK => ?_)
 refine value_ (by rfl) rfl (v := .pointer (some ⟨w3.heap.size, 0, none⟩)) (w1 := w3.alloc (.cells #[.int .i64 0, .int .i64 0] 122)) (by go_simp <;> rfl) ?_
 refine hK.out _ _ ⟨(HJ3.out.alloc _).cells.1, (HJ3.out.alloc _).cells.2.1, (HJ3.out.alloc _).cells.2.2, (HJ3.out.alloc _).md.look hkl _ rfl⟩ (fun hHeld => ?_)
 clear hK K
 refine norm_ (a' := ?_) ?_ ?_
 rotate_left
 ·show Act.put _ (some 5) _ = _
  simp only [Act.put, sQ0, sQ1, sQ2, i64_w]
  rfl
 refine last_ (i := 8) (N := none) #[tt,tt,tt,tt,tt,tt,tt,tt,tt] rfl rfl (one_of HT_.out (by kernel_rfl)) (by decide) (fun K hK => ?_)
 refine skip_ (by rfl) rfl (w1 := w3.alloc (.cells #[.int .i64 (m.st e.h), .int .i64 (m.dl e.h)] 122)) (by go_simp <;> rfl) ?_
 refine hK.out _ _ ?_
 clear hK K
 refine done_ (done_of HT_.out (by kernel_rfl)) ?_
 clear hHeld
 have hcx := fun i => blk_cell (HJ3.out.alloc (.cells #[.int .i64 (m.st e.h), .int .i64 (m.dl e.h)] 122)).xb i
 have hce := fun i => blk_cell (HJ3.out.alloc (.cells #[.int .i64 (m.st e.h), .int .i64 (m.dl e.h)] 122)).eb i
 have hcm := fun i => (HJ3.out.alloc (.cells #[.int .i64 (m.st e.h), .int .i64 (m.dl e.h)] 122)).md.cell i
 have HK := Aside0.mk (show Dk w (w3.alloc (.cells #[.int .i64 (m.st e.h), .int .i64 (m.dl e.h)] 122)) B b n m1 m2 m e w3.heap.size from ⟨HJ3.out.alloc _, blk_new _ _⟩)
 clear hkl
 have CP : Aside0 (∀ W, Dk w W B b n m1 m2 m e w3.heap.size → Calls Try.prog 76 #[pA b, .agg (evA e), .bool (m.st e.h == 1)] W (DoPost W B b n m1 m2 (pointF m e))) := ⟨fun W hW => point_any e HW.out HN.out HWL.out hW.dj.md⟩
 go_wp2_with (go_at_call 76; (with_reducible refine (CP.out _ HK.out).mono ?_); rintro r w4 ⟨rfl, hm, hf⟩; have HM := Aside0.mk (And.intro hm (HK.out.dj.fr.trans hf)); clear hm hf)
 go_ret
 exact DoPost.of HF.out rfl HM.out.1 HM.out.2
theorem do_tick {w : World} {B b n m1 m2 : Nat} {m : Md} (e : Ev) (hw : (Lit.int .i64 e.hn).wf = true ∧ (Lit.int .i64 e.hg).wf = true ∧ (Lit.int .i64 e.nn).wf = true ∧ (Lit.int .i64 e.ng).wf = true) (hn : n + 1 ≤ 1000000) (hwl : ∀ x, (Lit.int .i64 ((m.lst x).getD 0)).wf = true) (h : MdIs w B b n m m1 m2) (hr : rightJ e = true) (hk : e.k = 1) :
  Calls Try.prog 43 #[pA b, .agg (evA e)] w (DoPost w B b n m1 m2 (doF m e)) := by
 have hu0 := Try.underlying125
 have hu1 := Try.underlying34
 have hu2 := Try.underlying54
 have hu3 := Try.underlying122
 have hmf : ∀ (fn : Fn) (first cap : Array Value) (w : World), (Instr.makeFunc fn first cap).run Try.prog w = .ok (.func fn first cap) w := fun _ _ _ _ => rfl
 have HF := Aside0.mk (show doF m e = unF (e.t == wrap64 (m.clk + 1)) { m with clk := e.t } m by unfold doF; rw [if_neg (by rw [hr]; simp), if_pos hk]; unfold unF; by_cases ht : e.t = wrap64 (m.clk + 1) <;> simp [ht])
 have k1 : (e.k == 1) = true := beq_iff_eq.2 (hk)
 have k4 : (e.k == 4) = false := beq_eq_false_iff_ne.2 (by omega)
 have k3 : (e.k == 3) = false := beq_eq_false_iff_ne.2 (by omega)
 have CR := Aside0.mk (fun W => right_run e W)
 rw [hr] at CR
 have HW := Aside0.mk hw
 have HN := Aside0.mk hn
 have HWL := Aside0.mk hwl
 have HJ := Aside0.mk (Dj.start h e)
 clear hw hn hwl h hr hk
 have hcx := fun i => blk_cell HJ.out.xb i
 have hce := fun i => blk_cell HJ.out.eb i
 have hlx := blk_lt HJ.out.xb
 have hle := blk_lt HJ.out.eb
 have hcm := fun i => HJ.out.md.cell i
 have hlm := HJ.out.md.lt
 go_enter Try.func43, Try.ntmps43
 go_wp2_with (first | (go_at_call 65; (with_reducible refine (CR.out _).mono ?_); rintro r w2 ⟨rfl, hb2⟩; have HJ2 := Aside0.mk (HJ.out.step hb2); clear hb2 hcx hce hlx hle hcm hlm; have HJ := HJ2; have hcx := fun i => blk_cell HJ.out.xb i; have hce := fun i => blk_cell HJ.out.eb i; have hlx := blk_lt HJ.out.xb; have hle := blk_lt HJ.out.eb; have hcm := fun i => HJ.out.md.cell i; have hlm := HJ.out.md.lt))
 obtain ⟨kl, hkl⟩ := keyH e.hn e.hg HW.out.1 HW.out.2.1
 refine start_ (n := 9) (S := (fun w' => (∀ i, w'.cell? ⟨b, i, none⟩ = (mdA m m1 m2)[i]?) ∧ (∀ i, w'.cell? ⟨w.heap.size, i, none⟩ = (#[pA b] : Array Value)[i]?) ∧ (∀ i, w'.cell? ⟨w.heap.size + 1, i, none⟩ = (evA e)[i]?) ∧ (Instr.lookup 123 (.map (some m1)) (haV e.h) false).run Try.prog w' = .ok (.agg #[.int .i64 (m.st e.h), .int .i64 (m.dl e.h)]) w')) (ds := [8]) #[ff,ff,ff,ff,ff,ff,ff,ff,ff] (by kernel_rfl) rfl rfl ⟨HJ.out.drew.cells.1, HJ.out.drew.cells.2.1, HJ.out.drew.cells.2.2, HJ.out.drew.md.look hkl _ rfl⟩ (fun hHeld => ?_)
 refine with_tabW doR.tab3 doR.bits3 (fun HT_ HW_ => ?_)
 have HJ3 := Aside0.mk HJ.out.drew
 generalize World.drew _ = w3 at HJ3 hHeld ⊢
 clear HJ hcx hce hlx hle hcm hlm
 have hlx := blk_lt HJ3.out.xb
 have hle := blk_lt HJ3.out.eb
 have hlm := HJ3.out.md.lt
 refine pure_ (i := 4) (N := (some 14)) (v := ?_) (a' := ?_) #[ff,ff,ff,ff,tt,ff,ff,ff,ff] rfl rfl (any_of HT_.out (by kernel_rfl)) (fun _ _ _ h => h) (Or.inl ⟨by rfl, ?_⟩) ?_ ?_
 rotate_left
 ·intro w'
  go_simp
  with_reducible rfl
 rotate_left
 ·simp only [Act.put, sQ0, sQ1, sQ2, i64_w]
  rfl
 refine take_ (i := 0) (N := (some 10)) (v := ?_) (a' := ?_) #[tt,ff,ff,ff,tt,ff,ff,ff,ff] rfl rfl (take_ofW HT_.out HW_.out (by kernel_rfl)) (fun _ _ _ h => h) (Or.inl ⟨by rfl, ?_⟩) hHeld ?_ ?_
 rotate_left
 ·rintro w' ⟨s0, s1, s2, s3⟩
  go_simp
  with_reducible rfl
 rotate_left
 ·simp only [Act.put, sQ0, sQ1, sQ2, i64_w]
  rfl
 refine pure_ (i := 1) (N := (some 11)) (v := ?_) (a' := ?_) #[tt,tt,ff,ff,tt,ff,ff,ff,ff] rfl rfl (any_of HT_.out (by kernel_rfl)) (fun _ _ _ h => h) (Or.inl ⟨by rfl, ?_⟩) ?_ ?_
 rotate_left
 ·intro w'
  go_simp
  with_reducible rfl
 rotate_left
 ·simp only [Act.put, sQ0, sQ1, sQ2, i64_w]
  rfl
 refine pure_ (i := 2) (N := (some 12)) (v := ?_) (a' := ?_) #[tt,tt,tt,ff,tt,ff,ff,ff,ff] rfl rfl (any_of HT_.out (by kernel_rfl)) (fun _ _ _ h => h) (Or.inl ⟨by rfl, ?_⟩) ?_ ?_
 rotate_left
 ·intro w'
  go_simp
  with_reducible rfl
 rotate_left
 ·simp only [Act.put, sQ0, sQ1, sQ2, i64_w]
  rfl
 refine take_ (i := 3) (N := (some 13)) (v := ?_) (a' := ?_) #[tt,tt,tt,tt,tt,ff,ff,ff,ff] rfl rfl (take_ofW HT_.out HW_.out (by kernel_rfl)) (fun _ _ _ h => h) (Or.inl ⟨by rfl, ?_⟩) hHeld ?_ ?_
 rotate_left
 ·rintro w' ⟨s0, s1, s2, s3⟩
  go_simp
  with_reducible rfl
 rotate_left
 ·simp only [Act.put, sQ0, sQ1, sQ2, i64_w]
  rfl
 refine take_ (i := 5) (N := (some 15)) (v := ?_) (a' := ?_) #[tt,tt,tt,tt,tt,tt,ff,ff,ff] rfl rfl (take_ofW HT_.out HW_.out (by kernel_rfl)) (fun _ _ _ h => h) (Or.inl ⟨by rfl, ?_⟩) hHeld ?_ ?_
 rotate_left
 ·rintro w' ⟨s0, s1, s2, s3⟩
  go_simp
  with_reducible rfl
 rotate_left
 ·simp only [Act.put, sQ0, sQ1, sQ2, i64_w]
  rfl
 refine take_ (i := 6) (N := (some 16)) (v := ?_) (a' := ?_) #[tt,tt,tt,tt,tt,tt,tt,ff,ff] rfl rfl (take_ofW HT_.out HW_.out (by kernel_rfl)) (fun _ _ _ h => h) (Or.inl ⟨by rfl, ?_⟩) hHeld ?_ ?_
 rotate_left
 ·rintro w' ⟨s0, s1, s2, s3⟩
  go_simp
  with_reducible rfl
 rotate_left
 ·simp only [Act.put, sQ0, sQ1, sQ2, i64_w]
  rfl
 refine one_ (i := 7) (N := (some 5)) #[tt,tt,tt,tt,tt,tt,tt,tt,ff] rfl rfl (one_of HT_.out (by kernel_rfl)) (by decide) (fun K hK => ?_)
 refine value_ (by rfl) rfl (v := .pointer (some ⟨w3.heap.size, 0, none⟩)) (w1 := w3.alloc (.cells #[.int .i64 0, .int .i64 0] 122)) (by go_simp <;> rfl) ?_
 refine hK.out _ _ ⟨(HJ3.out.alloc _).cells.1, (HJ3.out.alloc _).cells.2.1, (HJ3.out.alloc _).cells.2.2, (HJ3.out.alloc _).md.look hkl _ rfl⟩ (fun hHeld => ?_)
 clear hK K
 refine norm_ (a' := ?_) ?_ ?_
 rotate_left
 ·show Act.put _ (some 5) _ = _
  simp only [Act.put, sQ0, sQ1, sQ2, i64_w]
  rfl
 refine last_ (i := 8) (N := none) #[tt,tt,tt,tt,tt,tt,tt,tt,tt] rfl rfl (one_of HT_.out (by kernel_rfl)) (by decide) (fun K hK => ?_)
 refine skip_ (by rfl) rfl (w1 := w3.alloc (.cells #[.int .i64 (m.st e.h), .int .i64 (m.dl e.h)] 122)) (by go_simp <;> rfl) ?_
 refine hK.out _ _ ?_
 clear hK K
 refine done_ (done_of HT_.out (by kernel_rfl)) ?_
 clear hHeld
 have hcx := fun i => blk_cell (HJ3.out.alloc (.cells #[.int .i64 (m.st e.h), .int .i64 (m.dl e.h)] 122)).xb i
 have hce := fun i => blk_cell (HJ3.out.alloc (.cells #[.int .i64 (m.st e.h), .int .i64 (m.dl e.h)] 122)).eb i
 have hcm := fun i => (HJ3.out.alloc (.cells #[.int .i64 (m.st e.h), .int .i64 (m.dl e.h)] 122)).md.cell i
 have HK := Aside0.mk (show Dk w (w3.alloc (.cells #[.int .i64 (m.st e.h), .int .i64 (m.dl e.h)] 122)) B b n m1 m2 m e w3.heap.size from ⟨HJ3.out.alloc _, blk_new _ _⟩)
 clear hkl
 go_upto_region 7 with (fail)
 refine gen_world' (fun W => Dk w W B b n m1 m2 m e w3.heap.size) (by exact HK.out) fun w4 HK4 => ?_
 obtain ⟨fb, hfb⟩ : ∃ fb, w3.heap.size = fb := ⟨_, rfl⟩
 rw [hfb] at HK4 ⊢
 have HK5 := Aside0.mk HK4.drew
 clear HK hfb HK4 hcx hce hlx hle hcm hlm
 refine start_ (n := 11) (S := (fun w' => (∀ i, w'.cell? ⟨b, i, none⟩ = (mdA m m1 m2)[i]?) ∧ (∀ i, w'.cell? ⟨w.heap.size, i, none⟩ = (#[pA b] : Array Value)[i]?) ∧ (∀ i, w'.cell? ⟨w.heap.size + 1, i, none⟩ = (evA e)[i]?) ∧ (∀ i, w'.cell? ⟨fb, i, none⟩ = (#[.int .i64 (m.st e.h), .int .i64 (m.dl e.h)] : Array Value)[i]?))) (ds := [9]) #[ff,ff,ff,ff,ff,ff,ff,ff,ff,ff,ff] (by kernel_rfl) rfl rfl HK5.out.cells (fun hHeld => ?_)
 refine with_tabW doR.tab7 doR.bits7 (fun HT_ HW_ => ?_)
 have HK6 := HK5
 generalize w4.drew = w5 at HK5 HK6 hHeld ⊢
 clear HK5
 have hlm := HK6.out.dj.md.lt
 have hlx := blk_lt HK6.out.dj.xb
 have hle := blk_lt HK6.out.dj.eb
 have hlf := blk_lt HK6.out.fb
 refine pure_ (i := 0) (N := (some 24)) (v := ?_) (a' := ?_) #[tt,ff,ff,ff,ff,ff,ff,ff,ff,ff,ff] rfl rfl (any_of HT_.out (by kernel_rfl)) (fun _ _ _ h => h) (Or.inl ⟨by rfl, ?_⟩) ?_ ?_
 rotate_left
 ·intro w'
  go_simp
  with_reducible rfl
 rotate_left
 ·simp only [Act.put, sQ0, sQ1, sQ2, i64_w]
  rfl
 refine pure_ (i := 8) (N := (some 32)) (v := ?_) (a' := ?_) #[tt,ff,ff,ff,ff,ff,ff,ff,tt,ff,ff] rfl rfl (any_of HT_.out (by kernel_rfl)) (fun _ _ _ h => h) (Or.inl ⟨by rfl, ?_⟩) ?_ ?_
 rotate_left
 ·intro w'
  go_simp
  with_reducible rfl
 rotate_left
 ·simp only [Act.put, sQ0, sQ1, sQ2, i64_w]
  rfl
 refine take_ (i := 1) (N := (some 25)) (v := ?_) (a' := ?_) #[tt,tt,ff,ff,ff,ff,ff,ff,tt,ff,ff] rfl rfl (take_ofW HT_.out HW_.out (by kernel_rfl)) (fun _ _ _ h => h) (Or.inl ⟨by rfl, ?_⟩) hHeld ?_ ?_
 rotate_left
 ·rintro w' ⟨s0, s1, s2, s3⟩
  go_simp
  with_reducible rfl
 rotate_left
 ·simp only [Act.put, sQ0, sQ1, sQ2, i64_w]
  rfl
 refine take_ (i := 2) (N := (some 26)) (v := ?_) (a' := ?_) #[tt,tt,tt,ff,ff,ff,ff,ff,tt,ff,ff] rfl rfl (take_ofW HT_.out HW_.out (by kernel_rfl)) (fun _ _ _ h => h) (Or.inl ⟨by rfl, ?_⟩) hHeld ?_ ?_
 rotate_left
 ·rintro w' ⟨s0, s1, s2, s3⟩
  go_simp
  with_reducible rfl
 rotate_left
 ·simp only [Act.put, sQ0, sQ1, sQ2, i64_w]
  rfl
 refine pure_ (i := 3) (N := (some 27)) (v := ?_) (a' := ?_) #[tt,tt,tt,tt,ff,ff,ff,ff,tt,ff,ff] rfl rfl (any_of HT_.out (by kernel_rfl)) (fun _ _ _ h => h) (Or.inl ⟨by rfl, ?_⟩) ?_ ?_
 rotate_left
 ·intro w'
  go_simp
  with_reducible rfl
 rotate_left
 ·simp only [Act.put, sQ0, sQ1, sQ2, i64_w]
  rfl
 refine pure_ (i := 4) (N := (some 28)) (v := ?_) (a' := ?_) #[tt,tt,tt,tt,tt,ff,ff,ff,tt,ff,ff] rfl rfl (any_of HT_.out (by kernel_rfl)) (fun _ _ _ h => h) (Or.inl ⟨by rfl, ?_⟩) ?_ ?_
 rotate_left
 ·intro w'
  go_simp
  with_reducible rfl
 rotate_left
 ·simp only [Act.put, sQ0, sQ1, sQ2, i64_w]
  rfl
 refine take_ (i := 5) (N := (some 29)) (v := ?_) (a' := ?_) #[tt,tt,tt,tt,tt,tt,ff,ff,tt,ff,ff] rfl rfl (take_ofW HT_.out HW_.out (by kernel_rfl)) (fun _ _ _ h => h) (Or.inl ⟨by rfl, ?_⟩) hHeld ?_ ?_
 rotate_left
 ·rintro w' ⟨s0, s1, s2, s3⟩
  go_simp
  with_reducible rfl
 rotate_left
 ·simp only [Act.put, sQ0, sQ1, sQ2, i64_w]
  rfl
 refine pure_ (i := 6) (N := (some 30)) (v := ?_) (a' := ?_) #[tt,tt,tt,tt,tt,tt,tt,ff,tt,ff,ff] rfl rfl (any_of HT_.out (by kernel_rfl)) (fun _ _ _ h => h) (Or.inl ⟨by rfl, ?_⟩) ?_ ?_
 rotate_left
 ·intro w'
  go_simp
  with_reducible rfl
 rotate_left
 ·simp only [Act.put, sQ0, sQ1, sQ2, i64_w]
  rfl
 refine pure_ (i := 7) (N := (some 31)) (v := ?_) (a' := ?_) #[tt,tt,tt,tt,tt,tt,tt,tt,tt,ff,ff] rfl rfl (any_of HT_.out (by kernel_rfl)) (fun _ _ _ h => h) (Or.inl ⟨by rfl, ?_⟩) ?_ ?_
 rotate_left
 ·intro w'
  go_simp
  with_reducible rfl
 rotate_left
 ·simp only [Act.put, sQ0, sQ1, sQ2, i64_w]
  rfl
 refine last_ (i := 9) (N := (some 33)) #[tt,tt,tt,tt,tt,tt,tt,tt,tt,tt,ff] rfl rfl (one_of HT_.out (by kernel_rfl)) (by decide) (fun K hK => ?_)
 refine call_ (f := 73) #[.bool (e.t == wrap64 (m.clk + 1)), .func (.func 74) #[] #[pA (w.heap.size + 1), pA w.heap.size]] (by rfl) rfl (by go_simp <;> rfl) ?_
 refine (un_tick (e.t == wrap64 (m.clk + 1)) HK6.out.dj.md HK6.out.dj.eb HK6.out.dj.xb).mono ?_
 rintro r w6 ⟨rfl, hm, hf⟩
 refine ⟨_, rfl, ?_⟩
 have HM := Aside0.mk (And.intro hm (HK6.out.dj.fr.trans hf))
 clear hm hf
 refine hK.out _ _ ?_
 clear hK K
 refine norm_ (a' := ?_) ?_ ?_
 rotate_left
 ·show Act.put _ (some 33) _ = _
  simp only [Act.put, sQ0, sQ1, sQ2, i64_w]
  rfl
 refine pure_ (i := 10) (N := (some 4)) (v := ?_) (a' := ?_) #[tt,tt,tt,tt,tt,tt,tt,tt,tt,tt,tt] rfl rfl (any_of HT_.out (by kernel_rfl)) (fun _ _ _ h => h) (Or.inl ⟨by rfl, ?_⟩) ?_ ?_
 rotate_left
 ·intro w'
  go_simp
  with_reducible rfl
 rotate_left
 ·simp only [Act.put, sQ0, sQ1, sQ2, i64_w]
  rfl
 refine done_ (done_of HT_.out (by kernel_rfl)) ?_
 go_wp2
 go_ret
 exact DoPost.of HF.out rfl HM.out.1 HM.out.2
theorem do_fire_no {w : World} {B b n m1 m2 : Nat} {m : Md} (e : Ev) (hw : (Lit.int .i64 e.hn).wf = true ∧ (Lit.int .i64 e.hg).wf = true ∧ (Lit.int .i64 e.nn).wf = true ∧ (Lit.int .i64 e.ng).wf = true) (hn : n + 1 ≤ 1000000) (hwl : ∀ x, (Lit.int .i64 ((m.lst x).getD 0)).wf = true) (h : MdIs w B b n m m1 m2) (hr : rightJ e = true) (hk : e.k = 4) (ha : ¬ m.st e.h = 1) :
  Calls Try.prog 43 #[pA b, .agg (evA e)] w (DoPost w B b n m1 m2 (doF m e)) := by
 have hu0 := Try.underlying125
 have hu1 := Try.underlying34
 have hu2 := Try.underlying54
 have hu3 := Try.underlying122
 have hmf : ∀ (fn : Fn) (first cap : Array Value) (w : World), (Instr.makeFunc fn first cap).run Try.prog w = .ok (.func fn first cap) w := fun _ _ _ _ => rfl
 have HF := Aside0.mk (show doF m e = unF false (m.end_ e.h 2) m by unfold doF; rw [if_neg (by rw [hr]; simp), if_neg (by omega), if_pos hk]; rw [if_neg (fun q => ha q.1)]; rfl)
 have k1 : (e.k == 1) = false := beq_eq_false_iff_ne.2 (by omega)
 have k4 : (e.k == 4) = true := beq_iff_eq.2 (hk)
 have k3 : (e.k == 3) = false := beq_eq_false_iff_ne.2 (by omega)
 have a1 : ((m.st e.h) == 1) = false := beq_eq_false_iff_ne.2 (ha)
 have CR := Aside0.mk (fun W => right_run e W)
 rw [hr] at CR
 have HW := Aside0.mk hw
 have HN := Aside0.mk hn
 have HWL := Aside0.mk hwl
 have HJ := Aside0.mk (Dj.start h e)
 clear hw hn hwl h hr hk ha
 have hcx := fun i => blk_cell HJ.out.xb i
 have hce := fun i => blk_cell HJ.out.eb i
 have hlx := blk_lt HJ.out.xb
 have hle := blk_lt HJ.out.eb
 have hcm := fun i => HJ.out.md.cell i
 have hlm := HJ.out.md.lt
 go_enter Try.func43, Try.ntmps43
 go_wp2_with (first | (go_at_call 65; (with_reducible refine (CR.out _).mono ?_); rintro r w2 ⟨rfl, hb2⟩; have HJ2 := Aside0.mk (HJ.out.step hb2); clear hb2 hcx hce hlx hle hcm hlm; have HJ := HJ2; have hcx := fun i => blk_cell HJ.out.xb i; have hce := fun i => blk_cell HJ.out.eb i; have hlx := blk_lt HJ.out.xb; have hle := blk_lt HJ.out.eb; have hcm := fun i => HJ.out.md.cell i; have hlm := HJ.out.md.lt))
 obtain ⟨kl, hkl⟩ := keyH e.hn e.hg HW.out.1 HW.out.2.1
 refine start_ (n := 9) (S := (fun w' => (∀ i, w'.cell? ⟨b, i, none⟩ = (mdA m m1 m2)[i]?) ∧ (∀ i, w'.cell? ⟨w.heap.size, i, none⟩ = (#[pA b] : Array Value)[i]?) ∧ (∀ i, w'.cell? ⟨w.heap.size + 1, i, none⟩ = (evA e)[i]?) ∧ (Instr.lookup 123 (.map (some m1)) (haV e.h) false).run Try.prog w' = .ok (.agg #[.int .i64 (m.st e.h), .int .i64 (m.dl e.h)]) w')) (ds := [8]) #[ff,ff,ff,ff,ff,ff,ff,ff,ff] (by kernel_rfl) rfl rfl ⟨HJ.out.drew.cells.1, HJ.out.drew.cells.2.1, HJ.out.drew.cells.2.2, HJ.out.drew.md.look hkl _ rfl⟩ (fun hHeld => ?_)
 refine with_tabW doR.tab3 doR.bits3 (fun HT_ HW_ => ?_)
 have HJ3 := Aside0.mk HJ.out.drew
 generalize World.drew _ = w3 at HJ3 hHeld ⊢
 clear HJ hcx hce hlx hle hcm hlm
 have hlx := blk_lt HJ3.out.xb
 have hle := blk_lt HJ3.out.eb
 have hlm := HJ3.out.md.lt
 refine pure_ (i := 4) (N := (some 14)) (v := ?_) (a' := ?_) #[ff,ff,ff,ff,tt,ff,ff,ff,ff] rfl rfl (any_of HT_.out (by kernel_rfl)) (fun _ _ _ h => h) (Or.inl ⟨by rfl, ?_⟩) ?_ ?_
 rotate_left
 ·intro w'
  go_simp
  with_reducible rfl
 rotate_left
 ·simp only [Act.put, sQ0, sQ1, sQ2, i64_w]
  rfl
 refine take_ (i := 0) (N := (some 10)) (v := ?_) (a' := ?_) #[tt,ff,ff,ff,tt,ff,ff,ff,ff] rfl rfl (take_ofW HT_.out HW_.out (by kernel_rfl)) (fun _ _ _ h => h) (Or.inl ⟨by rfl, ?_⟩) hHeld ?_ ?_
 rotate_left
 ·rintro w' ⟨s0, s1, s2, s3⟩
  go_simp
  with_reducible rfl
 rotate_left
 ·simp only [Act.put, sQ0, sQ1, sQ2, i64_w]
  rfl
 refine pure_ (i := 1) (N := (some 11)) (v := ?_) (a' := ?_) #[tt,tt,ff,ff,tt,ff,ff,ff,ff] rfl rfl (any_of HT_.out (by kernel_rfl)) (fun _ _ _ h => h) (Or.inl ⟨by rfl, ?_⟩) ?_ ?_
 rotate_left
 ·intro w'
  go_simp
  with_reducible rfl
 rotate_left
 ·simp only [Act.put, sQ0, sQ1, sQ2, i64_w]
  rfl
 refine pure_ (i := 2) (N := (some 12)) (v := ?_) (a' := ?_) #[tt,tt,tt,ff,tt,ff,ff,ff,ff] rfl rfl (any_of HT_.out (by kernel_rfl)) (fun _ _ _ h => h) (Or.inl ⟨by rfl, ?_⟩) ?_ ?_
 rotate_left
 ·intro w'
  go_simp
  with_reducible rfl
 rotate_left
 ·simp only [Act.put, sQ0, sQ1, sQ2, i64_w]
  rfl
 refine take_ (i := 3) (N := (some 13)) (v := ?_) (a' := ?_) #[tt,tt,tt,tt,tt,ff,ff,ff,ff] rfl rfl (take_ofW HT_.out HW_.out (by kernel_rfl)) (fun _ _ _ h => h) (Or.inl ⟨by rfl, ?_⟩) hHeld ?_ ?_
 rotate_left
 ·rintro w' ⟨s0, s1, s2, s3⟩
  go_simp
  with_reducible rfl
 rotate_left
 ·simp only [Act.put, sQ0, sQ1, sQ2, i64_w]
  rfl
 refine take_ (i := 5) (N := (some 15)) (v := ?_) (a' := ?_) #[tt,tt,tt,tt,tt,tt,ff,ff,ff] rfl rfl (take_ofW HT_.out HW_.out (by kernel_rfl)) (fun _ _ _ h => h) (Or.inl ⟨by rfl, ?_⟩) hHeld ?_ ?_
 rotate_left
 ·rintro w' ⟨s0, s1, s2, s3⟩
  go_simp
  with_reducible rfl
 rotate_left
 ·simp only [Act.put, sQ0, sQ1, sQ2, i64_w]
  rfl
 refine take_ (i := 6) (N := (some 16)) (v := ?_) (a' := ?_) #[tt,tt,tt,tt,tt,tt,tt,ff,ff] rfl rfl (take_ofW HT_.out HW_.out (by kernel_rfl)) (fun _ _ _ h => h) (Or.inl ⟨by rfl, ?_⟩) hHeld ?_ ?_
 rotate_left
 ·rintro w' ⟨s0, s1, s2, s3⟩
  go_simp
  with_reducible rfl
 rotate_left
 ·simp only [Act.put, sQ0, sQ1, sQ2, i64_w]
  rfl
 refine one_ (i := 7) (N := (some 5)) #[tt,tt,tt,tt,tt,tt,tt,tt,ff] rfl rfl (one_of HT_.out (by kernel_rfl)) (by decide) (fun K hK => ?_)
 refine value_ (by rfl) rfl (v := .pointer (some ⟨w3.heap.size, 0, none⟩)) (w1 := w3.alloc (.cells #[.int .i64 0, .int .i64 0] 122)) (by go_simp <;> rfl) ?_
 refine hK.out _ _ ⟨(HJ3.out.alloc _).cells.1, (HJ3.out.alloc _).cells.2.1, (HJ3.out.alloc _).cells.2.2, (HJ3.out.alloc _).md.look hkl _ rfl⟩ (fun hHeld => ?_)
 clear hK K
 refine norm_ (a' := ?_) ?_ ?_
 rotate_left
 ·show Act.put _ (some 5) _ = _
  simp only [Act.put, sQ0, sQ1, sQ2, i64_w]
  rfl
 refine last_ (i := 8) (N := none) #[tt,tt,tt,tt,tt,tt,tt,tt,tt] rfl rfl (one_of HT_.out (by kernel_rfl)) (by decide) (fun K hK => ?_)
 refine skip_ (by rfl) rfl (w1 := w3.alloc (.cells #[.int .i64 (m.st e.h), .int .i64 (m.dl e.h)] 122)) (by go_simp <;> rfl) ?_
 refine hK.out _ _ ?_
 clear hK K
 refine done_ (done_of HT_.out (by kernel_rfl)) ?_
 clear hHeld
 have hcx := fun i => blk_cell (HJ3.out.alloc (.cells #[.int .i64 (m.st e.h), .int .i64 (m.dl e.h)] 122)).xb i
 have hce := fun i => blk_cell (HJ3.out.alloc (.cells #[.int .i64 (m.st e.h), .int .i64 (m.dl e.h)] 122)).eb i
 have hcm := fun i => (HJ3.out.alloc (.cells #[.int .i64 (m.st e.h), .int .i64 (m.dl e.h)] 122)).md.cell i
 have HK := Aside0.mk (show Dk w (w3.alloc (.cells #[.int .i64 (m.st e.h), .int .i64 (m.dl e.h)] 122)) B b n m1 m2 m e w3.heap.size from ⟨HJ3.out.alloc _, blk_new _ _⟩)
 clear hkl
 go_upto_region 9 with (fail)
 refine gen_world' (fun W => Dk w W B b n m1 m2 m e w3.heap.size) (by exact HK.out) fun w4 HK4 => ?_
 obtain ⟨fb, hfb⟩ : ∃ fb, w3.heap.size = fb := ⟨_, rfl⟩
 rw [hfb] at HK4 ⊢
 have HK5 := Aside0.mk HK4.drew
 clear HK hfb HK4 hcx hce hlx hle hcm hlm
 refine start_ (n := 23) (S := (fun w' => (∀ i, w'.cell? ⟨b, i, none⟩ = (mdA m m1 m2)[i]?) ∧ (∀ i, w'.cell? ⟨w.heap.size, i, none⟩ = (#[pA b] : Array Value)[i]?) ∧ (∀ i, w'.cell? ⟨w.heap.size + 1, i, none⟩ = (evA e)[i]?) ∧ (∀ i, w'.cell? ⟨fb, i, none⟩ = (#[.int .i64 (m.st e.h), .int .i64 (m.dl e.h)] : Array Value)[i]?))) (ds := [21]) #[ff,ff,ff,ff,ff,ff,ff,ff,ff,ff,ff,ff,ff,ff,ff,ff,ff,ff,ff,ff,ff,ff,ff] (by kernel_rfl) rfl rfl HK5.out.cells (fun hHeld => ?_)
 refine with_tabW doR.tab9 doR.bits9 (fun HT_ HW_ => ?_)
 have HK6 := HK5
 generalize w4.drew = w5 at HK5 HK6 hHeld ⊢
 clear HK5
 have hlm := HK6.out.dj.md.lt
 have hlx := blk_lt HK6.out.dj.xb
 have hle := blk_lt HK6.out.dj.eb
 have hlf := blk_lt HK6.out.fb
 refine pure_ (i := 0) (N := (some 36)) (v := ?_) (a' := ?_) #[tt,ff,ff,ff,ff,ff,ff,ff,ff,ff,ff,ff,ff,ff,ff,ff,ff,ff,ff,ff,ff,ff,ff] rfl rfl (any_of HT_.out (by kernel_rfl)) (fun _ _ _ h => h) (Or.inl ⟨by rfl, ?_⟩) ?_ ?_
 rotate_left
 ·intro w'
  go_simp
  with_reducible rfl
 rotate_left
 ·simp only [Act.put, sQ0, sQ1, sQ2, i64_w]
  rfl
 refine pure_ (i := 1) (N := (some 37)) (v := ?_) (a' := ?_) #[tt,tt,ff,ff,ff,ff,ff,ff,ff,ff,ff,ff,ff,ff,ff,ff,ff,ff,ff,ff,ff,ff,ff] rfl rfl (any_of HT_.out (by kernel_rfl)) (fun _ _ _ h => h) (Or.inl ⟨by rfl, ?_⟩) ?_ ?_
 rotate_left
 ·intro w'
  go_simp
  with_reducible rfl
 rotate_left
 ·simp only [Act.put, sQ0, sQ1, sQ2, i64_w]
  rfl
 refine pure_ (i := 2) (N := (some 38)) (v := undef) (a' := ?_) #[tt,tt,tt,ff,ff,ff,ff,ff,ff,ff,ff,ff,ff,ff,ff,ff,ff,ff,ff,ff,ff,ff,ff] rfl rfl (any_of HT_.out (by kernel_rfl)) (fun _ _ _ h => h) (Or.inr ⟨by rfl, rfl⟩) ?_ ?_
 rotate_left
 ·simp only [Act.put, sQ0, sQ1, sQ2, i64_w]
  rfl
 refine pure_ (i := 3) (N := (some 39)) (v := undef) (a' := ?_) #[tt,tt,tt,tt,ff,ff,ff,ff,ff,ff,ff,ff,ff,ff,ff,ff,ff,ff,ff,ff,ff,ff,ff] rfl rfl (any_of HT_.out (by kernel_rfl)) (fun _ _ _ h => h) (Or.inr ⟨by rfl, rfl⟩) ?_ ?_
 rotate_left
 ·simp only [Act.put, sQ0, sQ1, sQ2, i64_w]
  rfl
 refine pure_ (i := 4) (N := (some 40)) (v := undef) (a' := ?_) #[tt,tt,tt,tt,tt,ff,ff,ff,ff,ff,ff,ff,ff,ff,ff,ff,ff,ff,ff,ff,ff,ff,ff] rfl rfl (any_of HT_.out (by kernel_rfl)) (fun _ _ _ h => h) (Or.inr ⟨by rfl, rfl⟩) ?_ ?_
 rotate_left
 ·simp only [Act.put, sQ0, sQ1, sQ2, i64_w]
  rfl
 refine pure_ (i := 5) (N := (some 41)) (v := undef) (a' := ?_) #[tt,tt,tt,tt,tt,tt,ff,ff,ff,ff,ff,ff,ff,ff,ff,ff,ff,ff,ff,ff,ff,ff,ff] rfl rfl (any_of HT_.out (by kernel_rfl)) (fun _ _ _ h => h) (Or.inr ⟨by rfl, rfl⟩) ?_ ?_
 rotate_left
 ·simp only [Act.put, sQ0, sQ1, sQ2, i64_w]
  rfl
 refine pure_ (i := 6) (N := (some 42)) (v := undef) (a' := ?_) #[tt,tt,tt,tt,tt,tt,tt,ff,ff,ff,ff,ff,ff,ff,ff,ff,ff,ff,ff,ff,ff,ff,ff] rfl rfl (any_of HT_.out (by kernel_rfl)) (fun _ _ _ h => h) (Or.inr ⟨by rfl, rfl⟩) ?_ ?_
 rotate_left
 ·simp only [Act.put, sQ0, sQ1, sQ2, i64_w]
  rfl
 refine pure_ (i := 7) (N := (some 43)) (v := ?_) (a' := ?_) #[tt,tt,tt,tt,tt,tt,tt,tt,ff,ff,ff,ff,ff,ff,ff,ff,ff,ff,ff,ff,ff,ff,ff] rfl rfl (any_of HT_.out (by kernel_rfl)) (fun _ _ _ h => h) (Or.inl ⟨by rfl, ?_⟩) ?_ ?_
 rotate_left
 ·intro w'
  go_simp
  with_reducible rfl
 rotate_left
 ·simp only [Act.put, sQ0, sQ1, sQ2, i64_w]
  rfl
 refine pure_ (i := 8) (N := (some 44)) (v := ?_) (a' := ?_) #[tt,tt,tt,tt,tt,tt,tt,tt,tt,ff,ff,ff,ff,ff,ff,ff,ff,ff,ff,ff,ff,ff,ff] rfl rfl (any_of HT_.out (by kernel_rfl)) (fun _ _ _ h => h) (Or.inl ⟨by rfl, ?_⟩) ?_ ?_
 rotate_left
 ·intro w'
  go_simp
  with_reducible rfl
 rotate_left
 ·simp only [Act.put, sQ0, sQ1, sQ2, i64_w]
  rfl
 refine pure_ (i := 9) (N := (some 45)) (v := undef) (a' := ?_) #[tt,tt,tt,tt,tt,tt,tt,tt,tt,tt,ff,ff,ff,ff,ff,ff,ff,ff,ff,ff,ff,ff,ff] rfl rfl (any_of HT_.out (by kernel_rfl)) (fun _ _ _ h => h) (Or.inr ⟨by rfl, rfl⟩) ?_ ?_
 rotate_left
 ·simp only [Act.put, sQ0, sQ1, sQ2, i64_w]
  rfl
 refine pure_ (i := 10) (N := (some 46)) (v := undef) (a' := ?_) #[tt,tt,tt,tt,tt,tt,tt,tt,tt,tt,tt,ff,ff,ff,ff,ff,ff,ff,ff,ff,ff,ff,ff] rfl rfl (any_of HT_.out (by kernel_rfl)) (fun _ _ _ h => h) (Or.inr ⟨by rfl, rfl⟩) ?_ ?_
 rotate_left
 ·simp only [Act.put, sQ0, sQ1, sQ2, i64_w]
  rfl
 refine pure_ (i := 11) (N := (some 47)) (v := undef) (a' := ?_) #[tt,tt,tt,tt,tt,tt,tt,tt,tt,tt,tt,tt,ff,ff,ff,ff,ff,ff,ff,ff,ff,ff,ff] rfl rfl (any_of HT_.out (by kernel_rfl)) (fun _ _ _ h => h) (Or.inr ⟨by rfl, rfl⟩) ?_ ?_
 rotate_left
 ·simp only [Act.put, sQ0, sQ1, sQ2, i64_w]
  rfl
 refine pure_ (i := 12) (N := (some 48)) (v := undef) (a' := ?_) #[tt,tt,tt,tt,tt,tt,tt,tt,tt,tt,tt,tt,tt,ff,ff,ff,ff,ff,ff,ff,ff,ff,ff] rfl rfl (any_of HT_.out (by kernel_rfl)) (fun _ _ _ h => h) (Or.inr ⟨by rfl, rfl⟩) ?_ ?_
 rotate_left
 ·simp only [Act.put, sQ0, sQ1, sQ2, i64_w]
  rfl
 refine pure_ (i := 13) (N := (some 49)) (v := undef) (a' := ?_) #[tt,tt,tt,tt,tt,tt,tt,tt,tt,tt,tt,tt,tt,tt,ff,ff,ff,ff,ff,ff,ff,ff,ff] rfl rfl (any_of HT_.out (by kernel_rfl)) (fun _ _ _ h => h) (Or.inr ⟨by rfl, rfl⟩) ?_ ?_
 rotate_left
 ·simp only [Act.put, sQ0, sQ1, sQ2, i64_w]
  rfl
 refine pure_ (i := 14) (N := (some 50)) (v := undef) (a' := ?_) #[tt,tt,tt,tt,tt,tt,tt,tt,tt,tt,tt,tt,tt,tt,tt,ff,ff,ff,ff,ff,ff,ff,ff] rfl rfl (any_of HT_.out (by kernel_rfl)) (fun _ _ _ h => h) (Or.inr ⟨by rfl, rfl⟩) ?_ ?_
 rotate_left
 ·simp only [Act.put, sQ0, sQ1, sQ2, i64_w]
  rfl
 refine pure_ (i := 15) (N := (some 51)) (v := undef) (a' := ?_) #[tt,tt,tt,tt,tt,tt,tt,tt,tt,tt,tt,tt,tt,tt,tt,tt,ff,ff,ff,ff,ff,ff,ff] rfl rfl (any_of HT_.out (by kernel_rfl)) (fun _ _ _ h => h) (Or.inr ⟨by rfl, rfl⟩) ?_ ?_
 rotate_left
 ·simp only [Act.put, sQ0, sQ1, sQ2, i64_w]
  rfl
 refine pure_ (i := 16) (N := (some 52)) (v := ?_) (a' := ?_) #[tt,tt,tt,tt,tt,tt,tt,tt,tt,tt,tt,tt,tt,tt,tt,tt,tt,ff,ff,ff,ff,ff,ff] rfl rfl (any_of HT_.out (by kernel_rfl)) (fun _ _ _ h => h) (Or.inl ⟨by rfl, ?_⟩) ?_ ?_
 rotate_left
 ·intro w'
  go_simp
  with_reducible rfl
 rotate_left
 ·simp only [Act.put, sQ0, sQ1, sQ2, i64_w]
  rfl
 refine pure_ (i := 18) (N := (some 54)) (v := ?_) (a' := ?_) #[tt,tt,tt,tt,tt,tt,tt,tt,tt,tt,tt,tt,tt,tt,tt,tt,tt,ff,tt,ff,ff,ff,ff] rfl rfl (any_of HT_.out (by kernel_rfl)) (fun _ _ _ h => h) (Or.inl ⟨by rfl, ?_⟩) ?_ ?_
 rotate_left
 ·intro w'
  go_simp
  with_reducible rfl
 rotate_left
 ·simp only [Act.put, sQ0, sQ1, sQ2, i64_w]
  rfl
 refine take_ (i := 17) (N := (some 53)) (v := ?_) (a' := ?_) #[tt,tt,tt,tt,tt,tt,tt,tt,tt,tt,tt,tt,tt,tt,tt,tt,tt,tt,tt,ff,ff,ff,ff] rfl rfl (take_ofW HT_.out HW_.out (by kernel_rfl)) (fun _ _ _ h => h) (Or.inl ⟨by rfl, ?_⟩) hHeld ?_ ?_
 rotate_left
 ·rintro w' ⟨s0, s1, s2, s3⟩
  go_simp
  with_reducible rfl
 rotate_left
 ·simp only [Act.put, sQ0, sQ1, sQ2, i64_w]
  rfl
 refine take_ (i := 19) (N := (some 55)) (v := ?_) (a' := ?_) #[tt,tt,tt,tt,tt,tt,tt,tt,tt,tt,tt,tt,tt,tt,tt,tt,tt,tt,tt,tt,ff,ff,ff] rfl rfl (take_ofW HT_.out HW_.out (by kernel_rfl)) (fun _ _ _ h => h) (Or.inl ⟨by rfl, ?_⟩) hHeld ?_ ?_
 rotate_left
 ·rintro w' ⟨s0, s1, s2, s3⟩
  go_simp
  with_reducible rfl
 rotate_left
 ·simp only [Act.put, sQ0, sQ1, sQ2, i64_w]
  rfl
 refine one_ (i := 20) (N := (some 56)) #[tt,tt,tt,tt,tt,tt,tt,tt,tt,tt,tt,tt,tt,tt,tt,tt,tt,tt,tt,tt,tt,ff,ff] rfl rfl (one_of HT_.out (by kernel_rfl)) (by decide) (fun K hK => ?_)
 refine call_ (f := 75) #[pA b, .agg #[.int .i64 e.hn, .int .i64 e.hg], .int .i64 2] (by rfl) rfl (by go_simp <;> rfl) ?_
 refine (end_new b e.hn e.hg 2 w5).mono ?_
 rintro r w6 ⟨sb, xb, hb, rfl, h3, hb2⟩
 refine ⟨_, rfl, ?_⟩
 have HE := Aside0.mk (And.intro h3 (HK6.out.step hb2))
 clear h3 hb2
 refine hK.out _ _ HE.out.2.cells (fun hHeld => ?_)
 clear hK K
 refine norm_ (a' := ?_) ?_ ?_
 rotate_left
 ·show Act.put _ (some 56) _ = _
  simp only [Act.put, sQ0, sQ1, sQ2, i64_w]
  rfl
 refine last_ (i := 21) (N := (some 57)) #[tt,tt,tt,tt,tt,tt,tt,tt,tt,tt,tt,tt,tt,tt,tt,tt,tt,tt,tt,tt,tt,tt,ff] rfl rfl (one_of HT_.out (by kernel_rfl)) (by decide) (fun K hK => ?_)
 refine call_ (f := 73) #[.bool false, .func (.func 99) #[] #[pA sb, pA xb, pA hb]] (by rfl) rfl (by first | (go_simp <;> rfl) | (simp only [HTC.out]; go_simp <;> rfl)) ?_
 refine (un_end false 2 e.hn e.hg (by have := HN.out; omega) HW.out.1 HW.out.2.1 HE.out.2.dj.md HE.out.1).mono ?_
 rintro r w7 ⟨rfl, hm, hf⟩
 refine ⟨_, rfl, ?_⟩
 have HM := Aside0.mk (And.intro hm (HE.out.2.dj.fr.trans hf))
 clear hm hf
 refine hK.out _ _ ?_
 clear hK K
 refine norm_ (a' := ?_) ?_ ?_
 rotate_left
 ·show Act.put _ (some 57) _ = _
  simp only [Act.put, sQ0, sQ1, sQ2, i64_w]
  rfl
 refine pure_ (i := 22) (N := (some 4)) (v := ?_) (a' := ?_) #[tt,tt,tt,tt,tt,tt,tt,tt,tt,tt,tt,tt,tt,tt,tt,tt,tt,tt,tt,tt,tt,tt,tt] rfl rfl (any_of HT_.out (by kernel_rfl)) (fun _ _ _ h => h) (Or.inl ⟨by rfl, ?_⟩) ?_ ?_
 rotate_left
 ·intro w'
  go_simp
  with_reducible rfl
 rotate_left
 ·simp only [Act.put, sQ0, sQ1, sQ2, i64_w]
  rfl
 refine done_ (done_of HT_.out (by kernel_rfl)) ?_
 go_wp2
 go_ret
 exact DoPost.of HF.out rfl HM.out.1 HM.out.2
theorem do_fire_early {w : World} {B b n m1 m2 : Nat} {m : Md} (e : Ev) (hw : (Lit.int .i64 e.hn).wf = true ∧ (Lit.int .i64 e.hg).wf = true ∧ (Lit.int .i64 e.nn).wf = true ∧ (Lit.int .i64 e.ng).wf = true) (hn : n + 1 ≤ 1000000) (hwl : ∀ x, (Lit.int .i64 ((m.lst x).getD 0)).wf = true) (h : MdIs w B b n m m1 m2) (hr : rightJ e = true) (hk : e.k = 4) (ha : m.st e.h = 1) (hd : ¬ m.dl e.h ≤ e.t) :
  Calls Try.prog 43 #[pA b, .agg (evA e)] w (DoPost w B b n m1 m2 (doF m e)) := by
 have hu0 := Try.underlying125
 have hu1 := Try.underlying34
 have hu2 := Try.underlying54
 have hu3 := Try.underlying122
 have hmf : ∀ (fn : Fn) (first cap : Array Value) (w : World), (Instr.makeFunc fn first cap).run Try.prog w = .ok (.func fn first cap) w := fun _ _ _ _ => rfl
 have HF := Aside0.mk (show doF m e = unF false (m.end_ e.h 2) m by unfold doF; rw [if_neg (by rw [hr]; simp), if_neg (by omega), if_pos hk]; rw [if_neg (fun q => hd q.2.1)]; rfl)
 have k1 : (e.k == 1) = false := beq_eq_false_iff_ne.2 (by omega)
 have k4 : (e.k == 4) = true := beq_iff_eq.2 (hk)
 have k3 : (e.k == 3) = false := beq_eq_false_iff_ne.2 (by omega)
 have a1 : ((m.st e.h) == 1) = true := beq_iff_eq.2 (ha)
 have d1 : decide (m.dl e.h ≤ e.t) = false := decide_eq_false hd
 have CR := Aside0.mk (fun W => right_run e W)
 rw [hr] at CR
 have HW := Aside0.mk hw
 have HN := Aside0.mk hn
 have HWL := Aside0.mk hwl
 have HJ := Aside0.mk (Dj.start h e)
 clear hw hn hwl h hr hk ha hd
 have hcx := fun i => blk_cell HJ.out.xb i
 have hce := fun i => blk_cell HJ.out.eb i
 have hlx := blk_lt HJ.out.xb
 have hle := blk_lt HJ.out.eb
 have hcm := fun i => HJ.out.md.cell i
 have hlm := HJ.out.md.lt
 go_enter Try.func43, Try.ntmps43
 go_wp2_with (first | (go_at_call 65; (with_reducible refine (CR.out _).mono ?_); rintro r w2 ⟨rfl, hb2⟩; have HJ2 := Aside0.mk (HJ.out.step hb2); clear hb2 hcx hce hlx hle hcm hlm; have HJ := HJ2; have hcx := fun i => blk_cell HJ.out.xb i; have hce := fun i => blk_cell HJ.out.eb i; have hlx := blk_lt HJ.out.xb; have hle := blk_lt HJ.out.eb; have hcm := fun i => HJ.out.md.cell i; have hlm := HJ.out.md.lt))
 obtain ⟨kl, hkl⟩ := keyH e.hn e.hg HW.out.1 HW.out.2.1
 refine start_ (n := 9) (S := (fun w' => (∀ i, w'.cell? ⟨b, i, none⟩ = (mdA m m1 m2)[i]?) ∧ (∀ i, w'.cell? ⟨w.heap.size, i, none⟩ = (#[pA b] : Array Value)[i]?) ∧ (∀ i, w'.cell? ⟨w.heap.size + 1, i, none⟩ = (evA e)[i]?) ∧ (Instr.lookup 123 (.map (some m1)) (haV e.h) false).run Try.prog w' = .ok (.agg #[.int .i64 (m.st e.h), .int .i64 (m.dl e.h)]) w')) (ds := [8]) #[ff,ff,ff,ff,ff,ff,ff,ff,ff] (by kernel_rfl) rfl rfl ⟨HJ.out.drew.cells.1, HJ.out.drew.cells.2.1, HJ.out.drew.cells.2.2, HJ.out.drew.md.look hkl _ rfl⟩ (fun hHeld => ?_)
 refine with_tabW doR.tab3 doR.bits3 (fun HT_ HW_ => ?_)
 have HJ3 := Aside0.mk HJ.out.drew
 generalize World.drew _ = w3 at HJ3 hHeld ⊢
 clear HJ hcx hce hlx hle hcm hlm
 have hlx := blk_lt HJ3.out.xb
 have hle := blk_lt HJ3.out.eb
 have hlm := HJ3.out.md.lt
 refine pure_ (i := 4) (N := (some 14)) (v := ?_) (a' := ?_) #[ff,ff,ff,ff,tt,ff,ff,ff,ff] rfl rfl (any_of HT_.out (by kernel_rfl)) (fun _ _ _ h => h) (Or.inl ⟨by rfl, ?_⟩) ?_ ?_
 rotate_left
 ·intro w'
  go_simp
  with_reducible rfl
 rotate_left
 ·simp only [Act.put, sQ0, sQ1, sQ2, i64_w]
  rfl
 refine take_ (i := 0) (N := (some 10)) (v := ?_) (a' := ?_) #[tt,ff,ff,ff,tt,ff,ff,ff,ff] rfl rfl (take_ofW HT_.out HW_.out (by kernel_rfl)) (fun _ _ _ h => h) (Or.inl ⟨by rfl, ?_⟩) hHeld ?_ ?_
 rotate_left
 ·rintro w' ⟨s0, s1, s2, s3⟩
  go_simp
  with_reducible rfl
 rotate_left
 ·simp only [Act.put, sQ0, sQ1, sQ2, i64_w]
  rfl
 refine pure_ (i := 1) (N := (some 11)) (v := ?_) (a' := ?_) #[tt,tt,ff,ff,tt,ff,ff,ff,ff] rfl rfl (any_of HT_.out (by kernel_rfl)) (fun _ _ _ h => h) (Or.inl ⟨by rfl, ?_⟩) ?_ ?_
 rotate_left
 ·intro w'
  go_simp
  with_reducible rfl
 rotate_left
 ·simp only [Act.put, sQ0, sQ1, sQ2, i64_w]
  rfl
 refine pure_ (i := 2) (N := (some 12)) (v := ?_) (a' := ?_) #[tt,tt,tt,ff,tt,ff,ff,ff,ff] rfl rfl (any_of HT_.out (by kernel_rfl)) (fun _ _ _ h => h) (Or.inl ⟨by rfl, ?_⟩) ?_ ?_
 rotate_left
 ·intro w'
  go_simp
  with_reducible rfl
 rotate_left
 ·simp only [Act.put, sQ0, sQ1, sQ2, i64_w]
  rfl
 refine take_ (i := 3) (N := (some 13)) (v := ?_) (a' := ?_) #[tt,tt,tt,tt,tt,ff,ff,ff,ff] rfl rfl (take_ofW HT_.out HW_.out (by kernel_rfl)) (fun _ _ _ h => h) (Or.inl ⟨by rfl, ?_⟩) hHeld ?_ ?_
 rotate_left
 ·rintro w' ⟨s0, s1, s2, s3⟩
  go_simp
  with_reducible rfl
 rotate_left
 ·simp only [Act.put, sQ0, sQ1, sQ2, i64_w]
  rfl
 refine take_ (i := 5) (N := (some 15)) (v := ?_) (a' := ?_) #[tt,tt,tt,tt,tt,tt,ff,ff,ff] rfl rfl (take_ofW HT_.out HW_.out (by kernel_rfl)) (fun _ _ _ h => h) (Or.inl ⟨by rfl, ?_⟩) hHeld ?_ ?_
 rotate_left
 ·rintro w' ⟨s0, s1, s2, s3⟩
  go_simp
  with_reducible rfl
 rotate_left
 ·simp only [Act.put, sQ0, sQ1, sQ2, i64_w]
  rfl
 refine take_ (i := 6) (N := (some 16)) (v := ?_) (a' := ?_) #[tt,tt,tt,tt,tt,tt,tt,ff,ff] rfl rfl (take_ofW HT_.out HW_.out (by kernel_rfl)) (fun _ _ _ h => h) (Or.inl ⟨by rfl, ?_⟩) hHeld ?_ ?_
 rotate_left
 ·rintro w' ⟨s0, s1, s2, s3⟩
  go_simp
  with_reducible rfl
 rotate_left
 ·simp only [Act.put, sQ0, sQ1, sQ2, i64_w]
  rfl
 refine one_ (i := 7) (N := (some 5)) #[tt,tt,tt,tt,tt,tt,tt,tt,ff] rfl rfl (one_of HT_.out (by kernel_rfl)) (by decide) (fun K hK => ?_)
 refine value_ (by rfl) rfl (v := .pointer (some ⟨w3.heap.size, 0, none⟩)) (w1 := w3.alloc (.cells #[.int .i64 0, .int .i64 0] 122)) (by go_simp <;> rfl) ?_
 refine hK.out _ _ ⟨(HJ3.out.alloc _).cells.1, (HJ3.out.alloc _).cells.2.1, (HJ3.out.alloc _).cells.2.2, (HJ3.out.alloc _).md.look hkl _ rfl⟩ (fun hHeld => ?_)
 clear hK K
 refine norm_ (a' := ?_) ?_ ?_
 rotate_left
 ·show Act.put _ (some 5) _ = _
  simp only [Act.put, sQ0, sQ1, sQ2, i64_w]
  rfl
 refine last_ (i := 8) (N := none) #[tt,tt,tt,tt,tt,tt,tt,tt,tt] rfl rfl (one_of HT_.out (by kernel_rfl)) (by decide) (fun K hK => ?_)
 refine skip_ (by rfl) rfl (w1 := w3.alloc (.cells #[.int .i64 (m.st e.h), .int .i64 (m.dl e.h)] 122)) (by go_simp <;> rfl) ?_
 refine hK.out _ _ ?_
 clear hK K
 refine done_ (done_of HT_.out (by kernel_rfl)) ?_
 clear hHeld
 have hcx := fun i => blk_cell (HJ3.out.alloc (.cells #[.int .i64 (m.st e.h), .int .i64 (m.dl e.h)] 122)).xb i
 have hce := fun i => blk_cell (HJ3.out.alloc (.cells #[.int .i64 (m.st e.h), .int .i64 (m.dl e.h)] 122)).eb i
 have hcm := fun i => (HJ3.out.alloc (.cells #[.int .i64 (m.st e.h), .int .i64 (m.dl e.h)] 122)).md.cell i
 have HK := Aside0.mk (show Dk w (w3.alloc (.cells #[.int .i64 (m.st e.h), .int .i64 (m.dl e.h)] 122)) B b n m1 m2 m e w3.heap.size from ⟨HJ3.out.alloc _, blk_new _ _⟩)
 clear hkl
 go_upto_region 9 with (fail)
 refine gen_world' (fun W => Dk w W B b n m1 m2 m e w3.heap.size) (by exact HK.out) fun w4 HK4 => ?_
 obtain ⟨fb, hfb⟩ : ∃ fb, w3.heap.size = fb := ⟨_, rfl⟩
 rw [hfb] at HK4 ⊢
 have HK5 := Aside0.mk HK4.drew
 clear HK hfb HK4 hcx hce hlx hle hcm hlm
 refine start_ (n := 23) (S := (fun w' => (∀ i, w'.cell? ⟨b, i, none⟩ = (mdA m m1 m2)[i]?) ∧ (∀ i, w'.cell? ⟨w.heap.size, i, none⟩ = (#[pA b] : Array Value)[i]?) ∧ (∀ i, w'.cell? ⟨w.heap.size + 1, i, none⟩ = (evA e)[i]?) ∧ (∀ i, w'.cell? ⟨fb, i, none⟩ = (#[.int .i64 (m.st e.h), .int .i64 (m.dl e.h)] : Array Value)[i]?))) (ds := [21]) #[ff,ff,ff,ff,ff,ff,ff,ff,ff,ff,ff,ff,ff,ff,ff,ff,ff,ff,ff,ff,ff,ff,ff] (by kernel_rfl) rfl rfl HK5.out.cells (fun hHeld => ?_)
 refine with_tabW doR.tab9 doR.bits9 (fun HT_ HW_ => ?_)
 have HK6 := HK5
 generalize w4.drew = w5 at HK5 HK6 hHeld ⊢
 clear HK5
 have hlm := HK6.out.dj.md.lt
 have hlx := blk_lt HK6.out.dj.xb
 have hle := blk_lt HK6.out.dj.eb
 have hlf := blk_lt HK6.out.fb
 refine pure_ (i := 0) (N := (some 36)) (v := ?_) (a' := ?_) #[tt,ff,ff,ff,ff,ff,ff,ff,ff,ff,ff,ff,ff,ff,ff,ff,ff,ff,ff,ff,ff,ff,ff] rfl rfl (any_of HT_.out (by kernel_rfl)) (fun _ _ _ h => h) (Or.inl ⟨by rfl, ?_⟩) ?_ ?_
 rotate_left
 ·intro w'
  go_simp
  with_reducible rfl
 rotate_left
 ·simp only [Act.put, sQ0, sQ1, sQ2, i64_w]
  rfl
 refine pure_ (i := 1) (N := (some 37)) (v := ?_) (a' := ?_) #[tt,tt,ff,ff,ff,ff,ff,ff,ff,ff,ff,ff,ff,ff,ff,ff,ff,ff,ff,ff,ff,ff,ff] rfl rfl (any_of HT_.out (by kernel_rfl)) (fun _ _ _ h => h) (Or.inl ⟨by rfl, ?_⟩) ?_ ?_
 rotate_left
 ·intro w'
  go_simp
  with_reducible rfl
 rotate_left
 ·simp only [Act.put, sQ0, sQ1, sQ2, i64_w]
  rfl
 refine pure_ (i := 2) (N := (some 38)) (v := ?_) (a' := ?_) #[tt,tt,tt,ff,ff,ff,ff,ff,ff,ff,ff,ff,ff,ff,ff,ff,ff,ff,ff,ff,ff,ff,ff] rfl rfl (any_of HT_.out (by kernel_rfl)) (fun _ _ _ h => h) (Or.inl ⟨by rfl, ?_⟩) ?_ ?_
 rotate_left
 ·intro w'
  go_simp
  with_reducible rfl
 rotate_left
 ·simp only [Act.put, sQ0, sQ1, sQ2, i64_w]
  rfl
 refine pure_ (i := 4) (N := (some 40)) (v := ?_) (a' := ?_) #[tt,tt,tt,ff,tt,ff,ff,ff,ff,ff,ff,ff,ff,ff,ff,ff,ff,ff,ff,ff,ff,ff,ff] rfl rfl (any_of HT_.out (by kernel_rfl)) (fun _ _ _ h => h) (Or.inl ⟨by rfl, ?_⟩) ?_ ?_
 rotate_left
 ·intro w'
  go_simp
  with_reducible rfl
 rotate_left
 ·simp only [Act.put, sQ0, sQ1, sQ2, i64_w]
  rfl
 refine pure_ (i := 18) (N := (some 54)) (v := ?_) (a' := ?_) #[tt,tt,tt,ff,tt,ff,ff,ff,ff,ff,ff,ff,ff,ff,ff,ff,ff,ff,tt,ff,ff,ff,ff] rfl rfl (any_of HT_.out (by kernel_rfl)) (fun _ _ _ h => h) (Or.inl ⟨by rfl, ?_⟩) ?_ ?_
 rotate_left
 ·intro w'
  go_simp
  with_reducible rfl
 rotate_left
 ·simp only [Act.put, sQ0, sQ1, sQ2, i64_w]
  rfl
 refine take_ (i := 3) (N := (some 39)) (v := ?_) (a' := ?_) #[tt,tt,tt,tt,tt,ff,ff,ff,ff,ff,ff,ff,ff,ff,ff,ff,ff,ff,tt,ff,ff,ff,ff] rfl rfl (take_ofW HT_.out HW_.out (by kernel_rfl)) (fun _ _ _ h => h) (Or.inl ⟨by rfl, ?_⟩) hHeld ?_ ?_
 rotate_left
 ·rintro w' ⟨s0, s1, s2, s3⟩
  go_simp
  with_reducible rfl
 rotate_left
 ·simp only [Act.put, sQ0, sQ1, sQ2, i64_w]
  rfl
 refine take_ (i := 5) (N := (some 41)) (v := ?_) (a' := ?_) #[tt,tt,tt,tt,tt,tt,ff,ff,ff,ff,ff,ff,ff,ff,ff,ff,ff,ff,tt,ff,ff,ff,ff] rfl rfl (take_ofW HT_.out HW_.out (by kernel_rfl)) (fun _ _ _ h => h) (Or.inl ⟨by rfl, ?_⟩) hHeld ?_ ?_
 rotate_left
 ·rintro w' ⟨s0, s1, s2, s3⟩
  go_simp
  with_reducible rfl
 rotate_left
 ·simp only [Act.put, sQ0, sQ1, sQ2, i64_w]
  rfl
 refine pure_ (i := 6) (N := (some 42)) (v := ?_) (a' := ?_) #[tt,tt,tt,tt,tt,tt,tt,ff,ff,ff,ff,ff,ff,ff,ff,ff,ff,ff,tt,ff,ff,ff,ff] rfl rfl (any_of HT_.out (by kernel_rfl)) (fun _ _ _ h => h) (Or.inl ⟨by rfl, ?_⟩) ?_ ?_
 rotate_left
 ·intro w'
  go_simp
  with_reducible rfl
 rotate_left
 ·simp only [Act.put, sQ0, sQ1, sQ2, i64_w]
  rfl
 refine pure_ (i := 7) (N := (some 43)) (v := ?_) (a' := ?_) #[tt,tt,tt,tt,tt,tt,tt,tt,ff,ff,ff,ff,ff,ff,ff,ff,ff,ff,tt,ff,ff,ff,ff] rfl rfl (any_of HT_.out (by kernel_rfl)) (fun _ _ _ h => h) (Or.inl ⟨by rfl, ?_⟩) ?_ ?_
 rotate_left
 ·intro w'
  go_simp
  with_reducible rfl
 rotate_left
 ·simp only [Act.put, sQ0, sQ1, sQ2, i64_w]
  rfl
 refine pure_ (i := 8) (N := (some 44)) (v := ?_) (a' := ?_) #[tt,tt,tt,tt,tt,tt,tt,tt,tt,ff,ff,ff,ff,ff,ff,ff,ff,ff,tt,ff,ff,ff,ff] rfl rfl (any_of HT_.out (by kernel_rfl)) (fun _ _ _ h => h) (Or.inl ⟨by rfl, ?_⟩) ?_ ?_
 rotate_left
 ·intro w'
  go_simp
  with_reducible rfl
 rotate_left
 ·simp only [Act.put, sQ0, sQ1, sQ2, i64_w]
  rfl
 refine pure_ (i := 9) (N := (some 45)) (v := undef) (a' := ?_) #[tt,tt,tt,tt,tt,tt,tt,tt,tt,tt,ff,ff,ff,ff,ff,ff,ff,ff,tt,ff,ff,ff,ff] rfl rfl (any_of HT_.out (by kernel_rfl)) (fun _ _ _ h => h) (Or.inr ⟨by rfl, rfl⟩) ?_ ?_
 rotate_left
 ·simp only [Act.put, sQ0, sQ1, sQ2, i64_w]
  rfl
 refine pure_ (i := 10) (N := (some 46)) (v := undef) (a' := ?_) #[tt,tt,tt,tt,tt,tt,tt,tt,tt,tt,tt,ff,ff,ff,ff,ff,ff,ff,tt,ff,ff,ff,ff] rfl rfl (any_of HT_.out (by kernel_rfl)) (fun _ _ _ h => h) (Or.inr ⟨by rfl, rfl⟩) ?_ ?_
 rotate_left
 ·simp only [Act.put, sQ0, sQ1, sQ2, i64_w]
  rfl
 refine pure_ (i := 11) (N := (some 47)) (v := undef) (a' := ?_) #[tt,tt,tt,tt,tt,tt,tt,tt,tt,tt,tt,tt,ff,ff,ff,ff,ff,ff,tt,ff,ff,ff,ff] rfl rfl (any_of HT_.out (by kernel_rfl)) (fun _ _ _ h => h) (Or.inr ⟨by rfl, rfl⟩) ?_ ?_
 rotate_left
 ·simp only [Act.put, sQ0, sQ1, sQ2, i64_w]
  rfl
 refine pure_ (i := 12) (N := (some 48)) (v := undef) (a' := ?_) #[tt,tt,tt,tt,tt,tt,tt,tt,tt,tt,tt,tt,tt,ff,ff,ff,ff,ff,tt,ff,ff,ff,ff] rfl rfl (any_of HT_.out (by kernel_rfl)) (fun _ _ _ h => h) (Or.inr ⟨by rfl, rfl⟩) ?_ ?_
 rotate_left
 ·simp only [Act.put, sQ0, sQ1, sQ2, i64_w]
  rfl
 refine pure_ (i := 13) (N := (some 49)) (v := undef) (a' := ?_) #[tt,tt,tt,tt,tt,tt,tt,tt,tt,tt,tt,tt,tt,tt,ff,ff,ff,ff,tt,ff,ff,ff,ff] rfl rfl (any_of HT_.out (by kernel_rfl)) (fun _ _ _ h => h) (Or.inr ⟨by rfl, rfl⟩) ?_ ?_
 rotate_left
 ·simp only [Act.put, sQ0, sQ1, sQ2, i64_w]
  rfl
 refine pure_ (i := 14) (N := (some 50)) (v := undef) (a' := ?_) #[tt,tt,tt,tt,tt,tt,tt,tt,tt,tt,tt,tt,tt,tt,tt,ff,ff,ff,tt,ff,ff,ff,ff] rfl rfl (any_of HT_.out (by kernel_rfl)) (fun _ _ _ h => h) (Or.inr ⟨by rfl, rfl⟩) ?_ ?_
 rotate_left
 ·simp only [Act.put, sQ0, sQ1, sQ2, i64_w]
  rfl
 refine pure_ (i := 15) (N := (some 51)) (v := undef) (a' := ?_) #[tt,tt,tt,tt,tt,tt,tt,tt,tt,tt,tt,tt,tt,tt,tt,tt,ff,ff,tt,ff,ff,ff,ff] rfl rfl (any_of HT_.out (by kernel_rfl)) (fun _ _ _ h => h) (Or.inr ⟨by rfl, rfl⟩) ?_ ?_
 rotate_left
 ·simp only [Act.put, sQ0, sQ1, sQ2, i64_w]
  rfl
 refine pure_ (i := 16) (N := (some 52)) (v := ?_) (a' := ?_) #[tt,tt,tt,tt,tt,tt,tt,tt,tt,tt,tt,tt,tt,tt,tt,tt,tt,ff,tt,ff,ff,ff,ff] rfl rfl (any_of HT_.out (by kernel_rfl)) (fun _ _ _ h => h) (Or.inl ⟨by rfl, ?_⟩) ?_ ?_
 rotate_left
 ·intro w'
  go_simp
  with_reducible rfl
 rotate_left
 ·simp only [Act.put, sQ0, sQ1, sQ2, i64_w]
  rfl
 refine take_ (i := 17) (N := (some 53)) (v := ?_) (a' := ?_) #[tt,tt,tt,tt,tt,tt,tt,tt,tt,tt,tt,tt,tt,tt,tt,tt,tt,tt,tt,ff,ff,ff,ff] rfl rfl (take_ofW HT_.out HW_.out (by kernel_rfl)) (fun _ _ _ h => h) (Or.inl ⟨by rfl, ?_⟩) hHeld ?_ ?_
 rotate_left
 ·rintro w' ⟨s0, s1, s2, s3⟩
  go_simp
  with_reducible rfl
 rotate_left
 ·simp only [Act.put, sQ0, sQ1, sQ2, i64_w]
  rfl
 refine take_ (i := 19) (N := (some 55)) (v := ?_) (a' := ?_) #[tt,tt,tt,tt,tt,tt,tt,tt,tt,tt,tt,tt,tt,tt,tt,tt,tt,tt,tt,tt,ff,ff,ff] rfl rfl (take_ofW HT_.out HW_.out (by kernel_rfl)) (fun _ _ _ h => h) (Or.inl ⟨by rfl, ?_⟩) hHeld ?_ ?_
 rotate_left
 ·rintro w' ⟨s0, s1, s2, s3⟩
  go_simp
  with_reducible rfl
 rotate_left
 ·simp only [Act.put, sQ0, sQ1, sQ2, i64_w]
  rfl
 refine one_ (i := 20) (N := (some 56)) #[tt,tt,tt,tt,tt,tt,tt,tt,tt,tt,tt,tt,tt,tt,tt,tt,tt,tt,tt,tt,tt,ff,ff] rfl rfl (one_of HT_.out (by kernel_rfl)) (by decide) (fun K hK => ?_)
 refine call_ (f := 75) #[pA b, .agg #[.int .i64 e.hn, .int .i64 e.hg], .int .i64 2] (by rfl) rfl (by go_simp <;> rfl) ?_
 refine (end_new b e.hn e.hg 2 w5).mono ?_
 rintro r w6 ⟨sb, xb, hb, rfl, h3, hb2⟩
 refine ⟨_, rfl, ?_⟩
 have HE := Aside0.mk (And.intro h3 (HK6.out.step hb2))
 clear h3 hb2
 refine hK.out _ _ HE.out.2.cells (fun hHeld => ?_)
 clear hK K
 refine norm_ (a' := ?_) ?_ ?_
 rotate_left
 ·show Act.put _ (some 56) _ = _
  simp only [Act.put, sQ0, sQ1, sQ2, i64_w]
  rfl
 refine last_ (i := 21) (N := (some 57)) #[tt,tt,tt,tt,tt,tt,tt,tt,tt,tt,tt,tt,tt,tt,tt,tt,tt,tt,tt,tt,tt,tt,ff] rfl rfl (one_of HT_.out (by kernel_rfl)) (by decide) (fun K hK => ?_)
 refine call_ (f := 73) #[.bool false, .func (.func 99) #[] #[pA sb, pA xb, pA hb]] (by rfl) rfl (by first | (go_simp <;> rfl) | (simp only [HTC.out]; go_simp <;> rfl)) ?_
 refine (un_end false 2 e.hn e.hg (by have := HN.out; omega) HW.out.1 HW.out.2.1 HE.out.2.dj.md HE.out.1).mono ?_
 rintro r w7 ⟨rfl, hm, hf⟩
 refine ⟨_, rfl, ?_⟩
 have HM := Aside0.mk (And.intro hm (HE.out.2.dj.fr.trans hf))
 clear hm hf
 refine hK.out _ _ ?_
 clear hK K
 refine norm_ (a' := ?_) ?_ ?_
 rotate_left
 ·show Act.put _ (some 57) _ = _
  simp only [Act.put, sQ0, sQ1, sQ2, i64_w]
  rfl
 refine pure_ (i := 22) (N := (some 4)) (v := ?_) (a' := ?_) #[tt,tt,tt,tt,tt,tt,tt,tt,tt,tt,tt,tt,tt,tt,tt,tt,tt,tt,tt,tt,tt,tt,tt] rfl rfl (any_of HT_.out (by kernel_rfl)) (fun _ _ _ h => h) (Or.inl ⟨by rfl, ?_⟩) ?_ ?_
 rotate_left
 ·intro w'
  go_simp
  with_reducible rfl
 rotate_left
 ·simp only [Act.put, sQ0, sQ1, sQ2, i64_w]
  rfl
 refine done_ (done_of HT_.out (by kernel_rfl)) ?_
 go_wp2
 go_ret
 exact DoPost.of HF.out rfl HM.out.1 HM.out.2
theorem do_fire {w : World} {B b n m1 m2 : Nat} {m : Md} (e : Ev) (hw : (Lit.int .i64 e.hn).wf = true ∧ (Lit.int .i64 e.hg).wf = true ∧ (Lit.int .i64 e.nn).wf = true ∧ (Lit.int .i64 e.ng).wf = true) (hn : n + 1 ≤ 1000000) (hwl : ∀ x, (Lit.int .i64 ((m.lst x).getD 0)).wf = true) (h : MdIs w B b n m m1 m2) (hr : rightJ e = true) (hk : e.k = 4) (ha : m.st e.h = 1) (hd : m.dl e.h ≤ e.t) :
  Calls Try.prog 43 #[pA b, .agg (evA e)] w (DoPost w B b n m1 m2 (doF m e)) := by
 have hu0 := Try.underlying125
 have hu1 := Try.underlying34
 have hu2 := Try.underlying54
 have hu3 := Try.underlying122
 have hmf : ∀ (fn : Fn) (first cap : Array Value) (w : World), (Instr.makeFunc fn first cap).run Try.prog w = .ok (.func fn first cap) w := fun _ _ _ _ => rfl
 have HF := Aside0.mk (show doF m e = unF (decide (e.t ≤ m.clk)) (m.end_ e.h 2) m by unfold doF; rw [if_neg (by rw [hr]; simp), if_neg (by omega), if_pos hk]; unfold unF; by_cases ht : e.t ≤ m.clk <;> simp [ha, hd, ht])
 have k1 : (e.k == 1) = false := beq_eq_false_iff_ne.2 (by omega)
 have k4 : (e.k == 4) = true := beq_iff_eq.2 (hk)
 have k3 : (e.k == 3) = false := beq_eq_false_iff_ne.2 (by omega)
 have a1 : ((m.st e.h) == 1) = true := beq_iff_eq.2 (ha)
 have d1 : decide (m.dl e.h ≤ e.t) = true := decide_eq_true hd
 have CR := Aside0.mk (fun W => right_run e W)
 rw [hr] at CR
 have HW := Aside0.mk hw
 have HN := Aside0.mk hn
 have HWL := Aside0.mk hwl
 have HJ := Aside0.mk (Dj.start h e)
 clear hw hn hwl h hr hk ha hd
 have hcx := fun i => blk_cell HJ.out.xb i
 have hce := fun i => blk_cell HJ.out.eb i
 have hlx := blk_lt HJ.out.xb
 have hle := blk_lt HJ.out.eb
 have hcm := fun i => HJ.out.md.cell i
 have hlm := HJ.out.md.lt
 go_enter Try.func43, Try.ntmps43
 go_wp2_with (first | (go_at_call 65; (with_reducible refine (CR.out _).mono ?_); rintro r w2 ⟨rfl, hb2⟩; have HJ2 := Aside0.mk (HJ.out.step hb2); clear hb2 hcx hce hlx hle hcm hlm; have HJ := HJ2; have hcx := fun i => blk_cell HJ.out.xb i; have hce := fun i => blk_cell HJ.out.eb i; have hlx := blk_lt HJ.out.xb; have hle := blk_lt HJ.out.eb; have hcm := fun i => HJ.out.md.cell i; have hlm := HJ.out.md.lt))
 obtain ⟨kl, hkl⟩ := keyH e.hn e.hg HW.out.1 HW.out.2.1
 refine start_ (n := 9) (S := (fun w' => (∀ i, w'.cell? ⟨b, i, none⟩ = (mdA m m1 m2)[i]?) ∧ (∀ i, w'.cell? ⟨w.heap.size, i, none⟩ = (#[pA b] : Array Value)[i]?) ∧ (∀ i, w'.cell? ⟨w.heap.size + 1, i, none⟩ = (evA e)[i]?) ∧ (Instr.lookup 123 (.map (some m1)) (haV e.h) false).run Try.prog w' = .ok (.agg #[.int .i64 (m.st e.h), .int .i64 (m.dl e.h)]) w')) (ds := [8]) #[ff,ff,ff,ff,ff,ff,ff,ff,ff] (by kernel_rfl) rfl rfl ⟨HJ.out.drew.cells.1, HJ.out.drew.cells.2.1, HJ.out.drew.cells.2.2, HJ.out.drew.md.look hkl _ rfl⟩ (fun hHeld => ?_)
 refine with_tabW doR.tab3 doR.bits3 (fun HT_ HW_ => ?_)
 have HJ3 := Aside0.mk HJ.out.drew
 generalize World.drew _ = w3 at HJ3 hHeld ⊢
 clear HJ hcx hce hlx hle hcm hlm
 have hlx := blk_lt HJ3.out.xb
 have hle := blk_lt HJ3.out.eb
 have hlm := HJ3.out.md.lt
 refine pure_ (i := 4) (N := (some 14)) (v := ?_) (a' := ?_) #[ff,ff,ff,ff,tt,ff,ff,ff,ff] rfl rfl (any_of HT_.out (by kernel_rfl)) (fun _ _ _ h => h) (Or.inl ⟨by rfl, ?_⟩) ?_ ?_
 rotate_left
 ·intro w'
  go_simp
  with_reducible rfl
 rotate_left
 ·simp only [Act.put, sQ0, sQ1, sQ2, i64_w]
  rfl
 refine take_ (i := 0) (N := (some 10)) (v := ?_) (a' := ?_) #[tt,ff,ff,ff,tt,ff,ff,ff,ff] rfl rfl (take_ofW HT_.out HW_.out (by kernel_rfl)) (fun _ _ _ h => h) (Or.inl ⟨by rfl, ?_⟩) hHeld ?_ ?_
 rotate_left
 ·rintro w' ⟨s0, s1, s2, s3⟩
  go_simp
  with_reducible rfl
 rotate_left
 ·simp only [Act.put, sQ0, sQ1, sQ2, i64_w]
  rfl
 refine pure_ (i := 1) (N := (some 11)) (v := ?_) (a' := ?_) #[tt,tt,ff,ff,tt,ff,ff,ff,ff] rfl rfl (any_of HT_.out (by kernel_rfl)) (fun _ _ _ h => h) (Or.inl ⟨by rfl, ?_⟩) ?_ ?_
 rotate_left
 ·intro w'
  go_simp
  with_reducible rfl
 rotate_left
 ·simp only [Act.put, sQ0, sQ1, sQ2, i64_w]
  rfl
 refine pure_ (i := 2) (N := (some 12)) (v := ?_) (a' := ?_) #[tt,tt,tt,ff,tt,ff,ff,ff,ff] rfl rfl (any_of HT_.out (by kernel_rfl)) (fun _ _ _ h => h) (Or.inl ⟨by rfl, ?_⟩) ?_ ?_
 rotate_left
 ·intro w'
  go_simp
  with_reducible rfl
 rotate_left
 ·simp only [Act.put, sQ0, sQ1, sQ2, i64_w]
  rfl
 refine take_ (i := 3) (N := (some 13)) (v := ?_) (a' := ?_) #[tt,tt,tt,tt,tt,ff,ff,ff,ff] rfl rfl (take_ofW HT_.out HW_.out (by kernel_rfl)) (fun _ _ _ h => h) (Or.inl ⟨by rfl, ?_⟩) hHeld ?_ ?_
 rotate_left
 ·rintro w' ⟨s0, s1, s2, s3⟩
  go_simp
  with_reducible rfl
 rotate_left
 ·simp only [Act.put, sQ0, sQ1, sQ2, i64_w]
  rfl
 refine take_ (i := 5) (N := (some 15)) (v := ?_) (a' := ?_) #[tt,tt,tt,tt,tt,tt,ff,ff,ff] rfl rfl (take_ofW HT_.out HW_.out (by kernel_rfl)) (fun _ _ _ h => h) (Or.inl ⟨by rfl, ?_⟩) hHeld ?_ ?_
 rotate_left
 ·rintro w' ⟨s0, s1, s2, s3⟩
  go_simp
  with_reducible rfl
 rotate_left
 ·simp only [Act.put, sQ0, sQ1, sQ2, i64_w]
  rfl
 refine take_ (i := 6) (N := (some 16)) (v := ?_) (a' := ?_) #[tt,tt,tt,tt,tt,tt,tt,ff,ff] rfl rfl (take_ofW HT_.out HW_.out (by kernel_rfl)) (fun _ _ _ h => h) (Or.inl ⟨by rfl, ?_⟩) hHeld ?_ ?_
 rotate_left
 ·rintro w' ⟨s0, s1, s2, s3⟩
  go_simp
  with_reducible rfl
 rotate_left
 ·simp only [Act.put, sQ0, sQ1, sQ2, i64_w]
  rfl
 refine one_ (i := 7) (N := (some 5)) #[tt,tt,tt,tt,tt,tt,tt,tt,ff] rfl rfl (one_of HT_.out (by kernel_rfl)) (by decide) (fun K hK => ?_)
 refine value_ (by rfl) rfl (v := .pointer (some ⟨w3.heap.size, 0, none⟩)) (w1 := w3.alloc (.cells #[.int .i64 0, .int .i64 0] 122)) (by go_simp <;> rfl) ?_
 refine hK.out _ _ ⟨(HJ3.out.alloc _).cells.1, (HJ3.out.alloc _).cells.2.1, (HJ3.out.alloc _).cells.2.2, (HJ3.out.alloc _).md.look hkl _ rfl⟩ (fun hHeld => ?_)
 clear hK K
 refine norm_ (a' := ?_) ?_ ?_
 rotate_left
 ·show Act.put _ (some 5) _ = _
  simp only [Act.put, sQ0, sQ1, sQ2, i64_w]
  rfl
 refine last_ (i := 8) (N := none) #[tt,tt,tt,tt,tt,tt,tt,tt,tt] rfl rfl (one_of HT_.out (by kernel_rfl)) (by decide) (fun K hK => ?_)
 refine skip_ (by rfl) rfl (w1 := w3.alloc (.cells #[.int .i64 (m.st e.h), .int .i64 (m.dl e.h)] 122)) (by go_simp <;> rfl) ?_
 refine hK.out _ _ ?_
 clear hK K
 refine done_ (done_of HT_.out (by kernel_rfl)) ?_
 clear hHeld
 have hcx := fun i => blk_cell (HJ3.out.alloc (.cells #[.int .i64 (m.st e.h), .int .i64 (m.dl e.h)] 122)).xb i
 have hce := fun i => blk_cell (HJ3.out.alloc (.cells #[.int .i64 (m.st e.h), .int .i64 (m.dl e.h)] 122)).eb i
 have hcm := fun i => (HJ3.out.alloc (.cells #[.int .i64 (m.st e.h), .int .i64 (m.dl e.h)] 122)).md.cell i
 have HK := Aside0.mk (show Dk w (w3.alloc (.cells #[.int .i64 (m.st e.h), .int .i64 (m.dl e.h)] 122)) B b n m1 m2 m e w3.heap.size from ⟨HJ3.out.alloc _, blk_new _ _⟩)
 clear hkl
 go_upto_region 9 with (fail)
 refine gen_world' (fun W => Dk w W B b n m1 m2 m e w3.heap.size) (by exact HK.out) fun w4 HK4 => ?_
 obtain ⟨fb, hfb⟩ : ∃ fb, w3.heap.size = fb := ⟨_, rfl⟩
 rw [hfb] at HK4 ⊢
 have HK5 := Aside0.mk HK4.drew
 clear HK hfb HK4 hcx hce hlx hle hcm hlm
 refine start_ (n := 23) (S := (fun w' => (∀ i, w'.cell? ⟨b, i, none⟩ = (mdA m m1 m2)[i]?) ∧ (∀ i, w'.cell? ⟨w.heap.size, i, none⟩ = (#[pA b] : Array Value)[i]?) ∧ (∀ i, w'.cell? ⟨w.heap.size + 1, i, none⟩ = (evA e)[i]?) ∧ (∀ i, w'.cell? ⟨fb, i, none⟩ = (#[.int .i64 (m.st e.h), .int .i64 (m.dl e.h)] : Array Value)[i]?))) (ds := [21]) #[ff,ff,ff,ff,ff,ff,ff,ff,ff,ff,ff,ff,ff,ff,ff,ff,ff,ff,ff,ff,ff,ff,ff] (by kernel_rfl) rfl rfl HK5.out.cells (fun hHeld => ?_)
 refine with_tabW doR.tab9 doR.bits9 (fun HT_ HW_ => ?_)
 have HK6 := HK5
 generalize w4.drew = w5 at HK5 HK6 hHeld ⊢
 clear HK5
 have hlm := HK6.out.dj.md.lt
 have hlx := blk_lt HK6.out.dj.xb
 have hle := blk_lt HK6.out.dj.eb
 have hlf := blk_lt HK6.out.fb
 refine pure_ (i := 0) (N := (some 36)) (v := ?_) (a' := ?_) #[tt,ff,ff,ff,ff,ff,ff,ff,ff,ff,ff,ff,ff,ff,ff,ff,ff,ff,ff,ff,ff,ff,ff] rfl rfl (any_of HT_.out (by kernel_rfl)) (fun _ _ _ h => h) (Or.inl ⟨by rfl, ?_⟩) ?_ ?_
 rotate_left
 ·intro w'
  go_simp
  with_reducible rfl
 rotate_left
 ·simp only [Act.put, sQ0, sQ1, sQ2, i64_w]
  rfl
 refine pure_ (i := 1) (N := (some 37)) (v := ?_) (a' := ?_) #[tt,tt,ff,ff,ff,ff,ff,ff,ff,ff,ff,ff,ff,ff,ff,ff,ff,ff,ff,ff,ff,ff,ff] rfl rfl (any_of HT_.out (by kernel_rfl)) (fun _ _ _ h => h) (Or.inl ⟨by rfl, ?_⟩) ?_ ?_
 rotate_left
 ·intro w'
  go_simp
  with_reducible rfl
 rotate_left
 ·simp only [Act.put, sQ0, sQ1, sQ2, i64_w]
  rfl
 refine pure_ (i := 2) (N := (some 38)) (v := ?_) (a' := ?_) #[tt,tt,tt,ff,ff,ff,ff,ff,ff,ff,ff,ff,ff,ff,ff,ff,ff,ff,ff,ff,ff,ff,ff] rfl rfl (any_of HT_.out (by kernel_rfl)) (fun _ _ _ h => h) (Or.inl ⟨by rfl, ?_⟩) ?_ ?_
 rotate_left
 ·intro w'
  go_simp
  with_reducible rfl
 rotate_left
 ·simp only [Act.put, sQ0, sQ1, sQ2, i64_w]
  rfl
 refine pure_ (i := 4) (N := (some 40)) (v := ?_) (a' := ?_) #[tt,tt,tt,ff,tt,ff,ff,ff,ff,ff,ff,ff,ff,ff,ff,ff,ff,ff,ff,ff,ff,ff,ff] rfl rfl (any_of HT_.out (by kernel_rfl)) (fun _ _ _ h => h) (Or.inl ⟨by rfl, ?_⟩) ?_ ?_
 rotate_left
 ·intro w'
  go_simp
  with_reducible rfl
 rotate_left
 ·simp only [Act.put, sQ0, sQ1, sQ2, i64_w]
  rfl
 refine pure_ (i := 18) (N := (some 54)) (v := ?_) (a' := ?_) #[tt,tt,tt,ff,tt,ff,ff,ff,ff,ff,ff,ff,ff,ff,ff,ff,ff,ff,tt,ff,ff,ff,ff] rfl rfl (any_of HT_.out (by kernel_rfl)) (fun _ _ _ h => h) (Or.inl ⟨by rfl, ?_⟩) ?_ ?_
 rotate_left
 ·intro w'
  go_simp
  with_reducible rfl
 rotate_left
 ·simp only [Act.put, sQ0, sQ1, sQ2, i64_w]
  rfl
 refine take_ (i := 3) (N := (some 39)) (v := ?_) (a' := ?_) #[tt,tt,tt,tt,tt,ff,ff,ff,ff,ff,ff,ff,ff,ff,ff,ff,ff,ff,tt,ff,ff,ff,ff] rfl rfl (take_ofW HT_.out HW_.out (by kernel_rfl)) (fun _ _ _ h => h) (Or.inl ⟨by rfl, ?_⟩) hHeld ?_ ?_
 rotate_left
 ·rintro w' ⟨s0, s1, s2, s3⟩
  go_simp
  with_reducible rfl
 rotate_left
 ·simp only [Act.put, sQ0, sQ1, sQ2, i64_w]
  rfl
 refine take_ (i := 5) (N := (some 41)) (v := ?_) (a' := ?_) #[tt,tt,tt,tt,tt,tt,ff,ff,ff,ff,ff,ff,ff,ff,ff,ff,ff,ff,tt,ff,ff,ff,ff] rfl rfl (take_ofW HT_.out HW_.out (by kernel_rfl)) (fun _ _ _ h => h) (Or.inl ⟨by rfl, ?_⟩) hHeld ?_ ?_
 rotate_left
 ·rintro w' ⟨s0, s1, s2, s3⟩
  go_simp
  with_reducible rfl
 rotate_left
 ·simp only [Act.put, sQ0, sQ1, sQ2, i64_w]
  rfl
 refine pure_ (i := 6) (N := (some 42)) (v := ?_) (a' := ?_) #[tt,tt,tt,tt,tt,tt,tt,ff,ff,ff,ff,ff,ff,ff,ff,ff,ff,ff,tt,ff,ff,ff,ff] rfl rfl (any_of HT_.out (by kernel_rfl)) (fun _ _ _ h => h) (Or.inl ⟨by rfl, ?_⟩) ?_ ?_
 rotate_left
 ·intro w'
  go_simp
  with_reducible rfl
 rotate_left
 ·simp only [Act.put, sQ0, sQ1, sQ2, i64_w]
  rfl
 refine pure_ (i := 7) (N := (some 43)) (v := ?_) (a' := ?_) #[tt,tt,tt,tt,tt,tt,tt,tt,ff,ff,ff,ff,ff,ff,ff,ff,ff,ff,tt,ff,ff,ff,ff] rfl rfl (any_of HT_.out (by kernel_rfl)) (fun _ _ _ h => h) (Or.inl ⟨by rfl, ?_⟩) ?_ ?_
 rotate_left
 ·intro w'
  go_simp
  with_reducible rfl
 rotate_left
 ·simp only [Act.put, sQ0, sQ1, sQ2, i64_w]
  rfl
 refine pure_ (i := 8) (N := (some 44)) (v := ?_) (a' := ?_) #[tt,tt,tt,tt,tt,tt,tt,tt,tt,ff,ff,ff,ff,ff,ff,ff,ff,ff,tt,ff,ff,ff,ff] rfl rfl (any_of HT_.out (by kernel_rfl)) (fun _ _ _ h => h) (Or.inl ⟨by rfl, ?_⟩) ?_ ?_
 rotate_left
 ·intro w'
  go_simp
  with_reducible rfl
 rotate_left
 ·simp only [Act.put, sQ0, sQ1, sQ2, i64_w]
  rfl
 refine pure_ (i := 9) (N := (some 45)) (v := ?_) (a' := ?_) #[tt,tt,tt,tt,tt,tt,tt,tt,tt,tt,ff,ff,ff,ff,ff,ff,ff,ff,tt,ff,ff,ff,ff] rfl rfl (any_of HT_.out (by kernel_rfl)) (fun _ _ _ h => h) (Or.inl ⟨by rfl, ?_⟩) ?_ ?_
 rotate_left
 ·intro w'
  go_simp
  with_reducible rfl
 rotate_left
 ·simp only [Act.put, sQ0, sQ1, sQ2, i64_w]
  rfl
 refine take_ (i := 10) (N := (some 46)) (v := ?_) (a' := ?_) #[tt,tt,tt,tt,tt,tt,tt,tt,tt,tt,tt,ff,ff,ff,ff,ff,ff,ff,tt,ff,ff,ff,ff] rfl rfl (take_ofW HT_.out HW_.out (by kernel_rfl)) (fun _ _ _ h => h) (Or.inl ⟨by rfl, ?_⟩) hHeld ?_ ?_
 rotate_left
 ·rintro w' ⟨s0, s1, s2, s3⟩
  go_simp
  with_reducible rfl
 rotate_left
 ·simp only [Act.put, sQ0, sQ1, sQ2, i64_w]
  rfl
 refine take_ (i := 11) (N := (some 47)) (v := ?_) (a' := ?_) #[tt,tt,tt,tt,tt,tt,tt,tt,tt,tt,tt,tt,ff,ff,ff,ff,ff,ff,tt,ff,ff,ff,ff] rfl rfl (take_ofW HT_.out HW_.out (by kernel_rfl)) (fun _ _ _ h => h) (Or.inl ⟨by rfl, ?_⟩) hHeld ?_ ?_
 rotate_left
 ·rintro w' ⟨s0, s1, s2, s3⟩
  go_simp
  with_reducible rfl
 rotate_left
 ·simp only [Act.put, sQ0, sQ1, sQ2, i64_w]
  rfl
 refine pure_ (i := 12) (N := (some 48)) (v := ?_) (a' := ?_) #[tt,tt,tt,tt,tt,tt,tt,tt,tt,tt,tt,tt,tt,ff,ff,ff,ff,ff,tt,ff,ff,ff,ff] rfl rfl (any_of HT_.out (by kernel_rfl)) (fun _ _ _ h => h) (Or.inl ⟨by rfl, ?_⟩) ?_ ?_
 rotate_left
 ·intro w'
  go_simp
  with_reducible rfl
 rotate_left
 ·simp only [Act.put, sQ0, sQ1, sQ2, i64_w]
  rfl
 refine pure_ (i := 13) (N := (some 49)) (v := ?_) (a' := ?_) #[tt,tt,tt,tt,tt,tt,tt,tt,tt,tt,tt,tt,tt,tt,ff,ff,ff,ff,tt,ff,ff,ff,ff] rfl rfl (any_of HT_.out (by kernel_rfl)) (fun _ _ _ h => h) (Or.inl ⟨by rfl, ?_⟩) ?_ ?_
 rotate_left
 ·intro w'
  go_simp
  with_reducible rfl
 rotate_left
 ·simp only [Act.put, sQ0, sQ1, sQ2, i64_w]
  rfl
 refine take_ (i := 14) (N := (some 50)) (v := ?_) (a' := ?_) #[tt,tt,tt,tt,tt,tt,tt,tt,tt,tt,tt,tt,tt,tt,tt,ff,ff,ff,tt,ff,ff,ff,ff] rfl rfl (take_ofW HT_.out HW_.out (by kernel_rfl)) (fun _ _ _ h => h) (Or.inl ⟨by rfl, ?_⟩) hHeld ?_ ?_
 rotate_left
 ·rintro w' ⟨s0, s1, s2, s3⟩
  go_simp
  with_reducible rfl
 rotate_left
 ·simp only [Act.put, sQ0, sQ1, sQ2, i64_w]
  rfl
 refine pure_ (i := 15) (N := (some 51)) (v := ?_) (a' := ?_) #[tt,tt,tt,tt,tt,tt,tt,tt,tt,tt,tt,tt,tt,tt,tt,tt,ff,ff,tt,ff,ff,ff,ff] rfl rfl (any_of HT_.out (by kernel_rfl)) (fun _ _ _ h => h) (Or.inl ⟨by rfl, ?_⟩) ?_ ?_
 rotate_left
 ·intro w'
  go_simp
  with_reducible rfl
 rotate_left
 ·simp only [Act.put, sQ0, sQ1, sQ2, i64_w]
  rfl
 refine pure_ (i := 16) (N := (some 52)) (v := ?_) (a' := ?_) #[tt,tt,tt,tt,tt,tt,tt,tt,tt,tt,tt,tt,tt,tt,tt,tt,tt,ff,tt,ff,ff,ff,ff] rfl rfl (any_of HT_.out (by kernel_rfl)) (fun _ _ _ h => h) (Or.inl ⟨by rfl, ?_⟩) ?_ ?_
 rotate_left
 ·intro w'
  go_simp
  with_reducible rfl
 rotate_left
 ·simp only [Act.put, sQ0, sQ1, sQ2, i64_w]
  rfl
 refine take_ (i := 17) (N := (some 53)) (v := ?_) (a' := ?_) #[tt,tt,tt,tt,tt,tt,tt,tt,tt,tt,tt,tt,tt,tt,tt,tt,tt,tt,tt,ff,ff,ff,ff] rfl rfl (take_ofW HT_.out HW_.out (by kernel_rfl)) (fun _ _ _ h => h) (Or.inl ⟨by rfl, ?_⟩) hHeld ?_ ?_
 rotate_left
 ·rintro w' ⟨s0, s1, s2, s3⟩
  go_simp
  with_reducible rfl
 rotate_left
 ·simp only [Act.put, sQ0, sQ1, sQ2, i64_w]
  rfl
 refine take_ (i := 19) (N := (some 55)) (v := ?_) (a' := ?_) #[tt,tt,tt,tt,tt,tt,tt,tt,tt,tt,tt,tt,tt,tt,tt,tt,tt,tt,tt,tt,ff,ff,ff] rfl rfl (take_ofW HT_.out HW_.out (by kernel_rfl)) (fun _ _ _ h => h) (Or.inl ⟨by rfl, ?_⟩) hHeld ?_ ?_
 rotate_left
 ·rintro w' ⟨s0, s1, s2, s3⟩
  go_simp
  with_reducible rfl
 rotate_left
 ·simp only [Act.put, sQ0, sQ1, sQ2, i64_w]
  rfl
 refine one_ (i := 20) (N := (some 56)) #[tt,tt,tt,tt,tt,tt,tt,tt,tt,tt,tt,tt,tt,tt,tt,tt,tt,tt,tt,tt,tt,ff,ff] rfl rfl (one_of HT_.out (by kernel_rfl)) (by decide) (fun K hK => ?_)
 refine call_ (f := 75) #[pA b, .agg #[.int .i64 e.hn, .int .i64 e.hg], .int .i64 2] (by rfl) rfl (by go_simp <;> rfl) ?_
 refine (end_new b e.hn e.hg 2 w5).mono ?_
 rintro r w6 ⟨sb, xb, hb, rfl, h3, hb2⟩
 refine ⟨_, rfl, ?_⟩
 have HE := Aside0.mk (And.intro h3 (HK6.out.step hb2))
 clear h3 hb2
 refine hK.out _ _ HE.out.2.cells (fun hHeld => ?_)
 clear hK K
 refine norm_ (a' := ?_) ?_ ?_
 rotate_left
 ·show Act.put _ (some 56) _ = _
  simp only [Act.put, sQ0, sQ1, sQ2, i64_w]
  rfl
 refine last_ (i := 21) (N := (some 57)) #[tt,tt,tt,tt,tt,tt,tt,tt,tt,tt,tt,tt,tt,tt,tt,tt,tt,tt,tt,tt,tt,tt,ff] rfl rfl (one_of HT_.out (by kernel_rfl)) (by decide) (fun K hK => ?_)
 refine call_ (f := 73) #[.bool (decide (e.t ≤ m.clk)), .func (.func 99) #[] #[pA sb, pA xb, pA hb]] (by rfl) rfl (by first | (go_simp <;> rfl) | (simp only [HTC.out]; go_simp <;> rfl)) ?_
 refine (un_end (decide (e.t ≤ m.clk)) 2 e.hn e.hg (by have := HN.out; omega) HW.out.1 HW.out.2.1 HE.out.2.dj.md HE.out.1).mono ?_
 rintro r w7 ⟨rfl, hm, hf⟩
 refine ⟨_, rfl, ?_⟩
 have HM := Aside0.mk (And.intro hm (HE.out.2.dj.fr.trans hf))
 clear hm hf
 refine hK.out _ _ ?_
 clear hK K
 refine norm_ (a' := ?_) ?_ ?_
 rotate_left
 ·show Act.put _ (some 57) _ = _
  simp only [Act.put, sQ0, sQ1, sQ2, i64_w]
  rfl
 refine pure_ (i := 22) (N := (some 4)) (v := ?_) (a' := ?_) #[tt,tt,tt,tt,tt,tt,tt,tt,tt,tt,tt,tt,tt,tt,tt,tt,tt,tt,tt,tt,tt,tt,tt] rfl rfl (any_of HT_.out (by kernel_rfl)) (fun _ _ _ h => h) (Or.inl ⟨by rfl, ?_⟩) ?_ ?_
 rotate_left
 ·intro w'
  go_simp
  with_reducible rfl
 rotate_left
 ·simp only [Act.put, sQ0, sQ1, sQ2, i64_w]
  rfl
 refine done_ (done_of HT_.out (by kernel_rfl)) ?_
 go_wp2
 go_ret
 exact DoPost.of HF.out rfl HM.out.1 HM.out.2
theorem do_any {w : World} {B b n m1 m2 : Nat} {m : Md} (e : Ev) (hw : (Lit.int .i64 e.hn).wf = true ∧ (Lit.int .i64 e.hg).wf = true ∧ (Lit.int .i64 e.nn).wf = true ∧ (Lit.int .i64 e.ng).wf = true) (hn : n + 1 ≤ 1000000) (hwl : ∀ x, (Lit.int .i64 ((m.lst x).getD 0)).wf = true) (h : MdIs w B b n m m1 m2) :
  Calls Try.prog 43 #[pA b, .agg (evA e)] w (DoPost w B b n m1 m2 (doF m e)) := by
 cases hr : rightJ e with
 | false => exact do_wrong e hw hn hwl h hr
 | true =>
  have hk : e.k = 1 ∨ e.k = 2 ∨ e.k = 3 ∨ e.k = 4 ∨ e.k = 5 := by
   have h := hr
   unfold rightJ Ev.evRight Ev.kindB at h
   simp at h
   omega
  rcases hk with hk | hk | hk | hk | hk
  ·exact do_tick e hw hn hwl h hr hk
  ·exact do_other e hw hn hwl h hr (.inl hk)
  ·exact do_point e hw hn hwl h hr hk
  ·by_cases ha : m.st e.h = 1
   ·by_cases hd : m.dl e.h ≤ e.t
    ·exact do_fire e hw hn hwl h hr hk ha hd
    ·exact do_fire_early e hw hn hwl h hr hk ha hd
   ·exact do_fire_no e hw hn hwl h hr hk ha
  ·exact do_other e hw hn hwl h hr (.inr hk)
end Go.Proofs.Ythniclbmpeklmaa.Ju
end
section
namespace Go.Proofs
open Go.Shelf
def Try.sortTm_ren : Go.Shelf.Ren := ⟨fun | 6 => 69 | 15 => 97 | 14 => 96 | 28 => 115 | 29 => 116 | 20 => 107 | 21 => 108 | 22 => 109 | 23 => 110 | 24 => 111 | 25 => 112 | 26 => 113 | 27 => 114 | 46 => 117 | 47 => 118 | 48 => 119 | 49 => 120 | 50 => 121 | 57 => 122 | n => n, fun | 22 => 78 | 24 => 81 | 25 => 131 | 3 => 3 | 39 => 149 | 0 => 0 | 53 => 166 | 55 => 168 | 4 => 4 | 46 => 160 | 45 => 159 | 50 => 92 | 5 => 5 | 9 => 9 | 66 => 169 | 70 => 156 | 76 => 174 | 77 => 70 | n => n, fun | n => n⟩
theorem Try.sortTm : Go.Proofs.SlLaysF0.n6 Try.prog Try.sortTm_ren := {
 mixed := by kernel_rfl
 f6 := ⟨Try.f69.name, by decide, Try.func69.trans (congrArg some (by kernel_rfl))⟩
 f14 := ⟨Try.f96.name, by decide, Try.func96.trans (congrArg some (by kernel_rfl))⟩
 f15 := Try.func97.trans (congrArg some (by kernel_rfl))
 f20 := ⟨Try.f107.name, by decide, Try.func107.trans (congrArg some (by kernel_rfl))⟩
 f21 := ⟨Try.f108.name, by decide, Try.func108.trans (congrArg some (by kernel_rfl))⟩
 f22 := ⟨Try.f109.name, by decide, Try.func109.trans (congrArg some (by kernel_rfl))⟩
 f23 := ⟨Try.f110.name, by decide, Try.func110.trans (congrArg some (by kernel_rfl))⟩
 f24 := ⟨Try.f111.name, by decide, Try.func111.trans (congrArg some (by kernel_rfl))⟩
 f25 := ⟨Try.f112.name, by decide, Try.func112.trans (congrArg some (by kernel_rfl))⟩
 f26 := ⟨Try.f113.name, by decide, Try.func113.trans (congrArg some (by kernel_rfl))⟩
 f27 := ⟨Try.f114.name, by decide, Try.func114.trans (congrArg some (by kernel_rfl))⟩
 f28 := Try.func115.trans (congrArg some (by kernel_rfl))
 f29 := Try.func116.trans (congrArg some (by kernel_rfl))
 f46 := ⟨Try.f117.name, by decide, Try.func117.trans (congrArg some (by kernel_rfl))⟩
 f47 := Try.func118.trans (congrArg some (by kernel_rfl))
 f48 := Try.func119.trans (congrArg some (by kernel_rfl))
 f49 := ⟨Try.f120.name, by decide, Try.func120.trans (congrArg some (by kernel_rfl))⟩
 f50 := ⟨Try.f121.name, by decide, Try.func121.trans (congrArg some (by kernel_rfl))⟩
 f57 := ⟨Try.f122.name, by decide, Try.func122.trans (congrArg some (by kernel_rfl))⟩
 t0 := Try.underlying0
 a0 := Try.isAgg0
 z0 := Try.sizeOf0
 v0 := Try.zeroValue0
 t3 := Try.underlying3
 a3 := Try.isAgg3
 z3 := Try.sizeOf3
 v3 := Try.zeroValue3
 t4 := Try.underlying4
 a4 := Try.isAgg4
 z4 := Try.sizeOf4
 v4 := Try.zeroValue4
 t5 := Try.underlying5
 a5 := Try.isAgg5
 z5 := Try.sizeOf5
 v5 := Try.zeroValue5
 t9 := Try.underlying9
 a9 := Try.isAgg9
 z9 := Try.sizeOf9
 v9 := Try.zeroValue9
 t22 := Try.underlying78
 a22 := Try.isAgg78
 z22 := Try.sizeOf78
 v22 := Try.zeroValue78
 t25 := Try.underlying131
 a25 := Try.isAgg131
 z25 := Try.sizeOf131
 v25 := Try.zeroValue131
 t39 := Try.underlying149
 a39 := Try.isAgg149
 z39 := Try.sizeOf149
 v39 := Try.zeroValue149
 t45 := Try.underlying159
 a45 := Try.isAgg159
 z45 := Try.sizeOf159
 v45 := Try.zeroValue159
 t46 := Try.underlying160
 a46 := Try.isAgg160
 z46 := Try.sizeOf160
 v46 := Try.zeroValue160
 t50 := Try.underlying92
 a50 := Try.isAgg92
 z50 := Try.sizeOf92
 v50 := Try.zeroValue92
 t53 := Try.underlying166
 a53 := Try.isAgg166
 z53 := Try.sizeOf166
 v53 := Try.zeroValue166
 t55 := Try.underlying168
 a55 := Try.isAgg168
 z55 := Try.sizeOf168
 v55 := Try.zeroValue168
 t66 := Try.underlying169
 a66 := Try.isAgg169
 z66 := Try.sizeOf169
 v66 := Try.zeroValue169
 t70 := Try.underlying156
 a70 := Try.isAgg156
 z70 := Try.sizeOf156
 v70 := Try.zeroValue156
 t76 := Try.underlying174
 a76 := Try.isAgg174
 z76 := Try.sizeOf174
 v76 := Try.zeroValue174
 t77 := Try.underlying70
 a77 := Try.isAgg70
 z77 := Try.sizeOf70
 v77 := Try.zeroValue70 }
end Go.Proofs
end
section
namespace Go.Proofs.Ythniclbmpeklmaa.Mo
open Go.RowKit Go.Maps Go.Shelf Go.Lib Go.Sort Go.Proofs.YthniclbmpeklmaaW.PrintWords Go.Proofs.YthniclbmpeklmaaW.PrintLast Go.Proofs.YthniclbmpeklmaaW.PrintMore Go.Proofs.Ythniclbmpeklmaa.Mp Go.Proofs.Ythniclbmpeklmaa.Ju
open Go.Proofs.Ythniclbmpeklmaa.Au (Ha RowIs flat_get flat_len)
set_option linter.unusedVariables false
set_option linter.unusedSimpArgs false
abbrev Tm := Ha × Int
abbrev encT (x : Tm) : List Value := [.int .i64 x.1.1, .int .i64 x.1.2, .int .i64 x.2]
abbrev tmA (x : Tm) : Array Value := #[.int .i64 x.1.1, .int .i64 x.1.2, .int .i64 x.2]
def cfT (x y : Tm) : Int := if compareInt x.1.1 y.1.1 ≠ 0 then compareInt x.1.1 y.1.1 else compareInt x.1.2 y.1.2
def ltT (x y : Tm) : Prop := x.1.1 < y.1.1 ∨ (x.1.1 = y.1.1 ∧ x.1.2 < y.1.2)
theorem ltOf_iff (x y : Tm) : ltOf cfT x y = true ↔ ltT x y := by
 unfold ltOf cfT ltT compareInt
 by_cases h1 : x.1.1 < y.1.1
 ·simp [h1]
 ·by_cases h2 : y.1.1 < x.1.1
  ·simp [h1, h2]; omega
  ·have e : x.1.1 = y.1.1 := by omega
   by_cases h3 : x.1.2 < y.1.2
   ·simp [h1, h2, h3, e]
   ·by_cases h4 : y.1.2 < x.1.2 <;> simp [h1, h2, h3, h4, e]
theorem swoT : SWO (ltOf cfT) where
 irrefl x := by
  cases h : ltOf cfT x x with
  | false => rfl
  | true => have := (ltOf_iff x x).1 h; unfold ltT at this; omega
 trans x y z h1 h2 := by
  have a := (ltOf_iff _ _).1 h1
  have b := (ltOf_iff _ _).1 h2
  refine (ltOf_iff _ _).2 ?_
  unfold ltT at *
  omega
 ntrans x y z h1 h2 := by
  have a : ¬ ltT x y := fun q => by rw [(ltOf_iff x y).2 q] at h1; cases h1
  have b : ¬ ltT y z := fun q => by rw [(ltOf_iff y z).2 q] at h2; cases h2
  cases h : ltOf cfT x z with
  | false => rfl
  | true =>
   have c := (ltOf_iff _ _).1 h
   unfold ltT at *
   omega
theorem flatK_is (L : List Tm) : (flatK encT 3 L.toArray).toList = L.flatMap fun x => (tmA x).toList := by
 apply List.ext_getElem?
 intro t
 by_cases ht : t < L.length * 3
 ·have hi : t / 3 < L.length := by omega
  have h1 := flat_get (A := tmA) (k := 3) (fun _ => rfl) L (t / 3) (t % 3) L[t / 3] (List.getElem?_eq_getElem hi) (Nat.mod_lt _ (by omega))
  rw [show t / 3 * 3 + t % 3 = t by omega] at h1
  rw [h1, Array.getElem?_toList]
  unfold flatK
  rw [Array.getElem?_map, Array.getElem?_range, if_pos (by simpa using ht)]
  simp only [Option.map_some]
  have h3 : t % 3 = 0 ∨ t % 3 = 1 ∨ t % 3 = 2 := by omega
  have h4 : L.toArray[t / 3]! = L[t / 3] := by simp [hi]
  rw [h4]
  rcases h3 with q | q | q <;> rw [q] <;> rfl
 ·rw [List.getElem?_eq_none (by simp; omega), List.getElem?_eq_none (by rw [flat_len (k := 3) (fun _ => rfl)]; omega)]
theorem holdsT {w : World} {g : Nat} {cur : Array Value} {e : TypeId} {L : List Tm} (hb : w.heap[g]? = some (.cells cur e (0, 0))) (ht : cur.toList.take (L.length * 3) = L.flatMap fun x => (tmA x).toList) : HoldsK encT 3 w g 0 L.toArray := by
 intro j hj
 have hj' : j < L.length * 3 := by simpa using hj
 refine ⟨?_, by simp [World.frozen?, hb]⟩
 have h1 : (cur.toList.take (L.length * 3))[j]? = (flatK encT 3 L.toArray).toList[j]? := by rw [ht, flatK_is]
 rw [List.getElem?_take_of_lt hj'] at h1
 simp only [World.cell?, hb, Nat.zero_add]
 simp only [Option.isSome_none, Bool.false_eq_true, if_false]
 rw [← Array.getElem?_toList, h1, Array.getElem?_toList, Array.getElem?_eq_getElem hj]
 exact congrArg some (getElem!_pos (flatK encT 3 L.toArray) j hj).symm
theorem heapT {w : World} {g n : Nat} {os : Array Obj} {cur : Array Value} {e : TypeId} {fr : Nat × Nat} (L : Array Tm) (hb : w.heap[g]? = some (.cells cur e fr)) :
  (sortWorldK encT 3 w g 0 n L os).heap[g]? = some (.cells (putCells id 0 (flatK encT 3 L) cur) e fr) := by
 have hg : g < w.heap.size := (Array.getElem?_eq_some_iff.1 hb).1
 unfold sortWorldK putRowK
 rw [heap_grow_old _ _ (by simpa using hg)]
 simp [putRow, mapBlock, Sort.ahead, Array.getElem?_modify, hb, onCells]
theorem grownT {w : World} {g n : Nat} {os : Array Obj} (L : Array Tm) : w.grownBy (sortWorldK encT 3 w g 0 n L os) (some g) := by
 unfold sortWorldK putRowK
 refine ⟨rfl, rfl, rfl, by simp, fun k hk hne => ?_⟩
 rw [heap_grow_old _ _ (by simpa using hk)]
 have : g ≠ k := fun e => hne (by rw [e])
 simp [putRow, mapBlock, Sort.ahead, Array.getElem?_modify, this]
theorem takeT (cur : Array Value) (L : List Tm) (h : L.length * 3 ≤ cur.size) : (putCells id 0 (flatK encT 3 L.toArray) cur).toList.take (L.length * 3) = L.flatMap fun x => (tmA x).toList := by
 rw [← flatK_is]
 have hs : (flatK encT 3 L.toArray).size = L.length * 3 := by simp
 generalize flatK encT 3 L.toArray = F at hs ⊢
 apply List.ext_getElem?
 intro j
 by_cases hj : j < L.length * 3
 ·rw [List.getElem?_take_of_lt hj, Array.getElem?_toList, Array.getElem?_toList]
  have h1 : j < cur.size := by omega
  have h2 : j < F.size := by omega
  simp only [putCells, Array.getElem?_mapIdx, Array.getElem?_eq_getElem h1, Array.getElem?_eq_getElem h2, Option.map_some, Nat.zero_le, true_and, Nat.zero_add, Nat.sub_zero, h2, if_true, id]
  simp [h2]
 ·rw [List.getElem?_take_eq_none (by omega), List.getElem?_eq_none (by rw [Array.length_toList]; omega)]
theorem rowT {w : World} {B g cap n : Nat} {e : TypeId} {os : Array Obj} {cur : Array Value} {L L' : List Tm} (hl : L'.length = L.length) (hB : B ≤ g) (hb : w.heap[g]? = some (.cells cur e (0, 0))) (h1 : L.length ≤ cap) (h2 : cap ≤ maxLen) (h3 : cur.size = cap * 3) :
  RowIs (sortWorldK encT 3 w g 0 n L'.toArray os) B e 3 tmA (.slice (some ⟨g, 0, none⟩) L'.length cap) L' := by
 refine ⟨by rw [flat_len (k := 3) (fun _ => rfl)], .inr ⟨g, cap, _, by rw [hl], hB, heapT _ hb, by omega, h2, by simp [putCells, h3], takeT cur L' (by rw [hl, h3]; exact Nat.mul_le_mul_right 3 h1)⟩⟩
end Go.Proofs.Ythniclbmpeklmaa.Mo
end
section
set_option maxHeartbeats 4000000
set_option maxRecDepth 100000
namespace Go.Proofs.Ythniclbmpeklmaa.Mo
open Go.RowKit Go.Maps Go.Shelf Go.Lib Go.Sort Go.Proofs.YthniclbmpeklmaaW.PrintWords Go.Proofs.YthniclbmpeklmaaW.PrintLast Go.Proofs.YthniclbmpeklmaaW.PrintMore Go.Proofs.Ythniclbmpeklmaa.Mp Go.Proofs.Ythniclbmpeklmaa.Ju
open Go.Proofs.Ythniclbmpeklmaa.Au (Ha RowIs flat_get flat_len)
set_option linter.unusedVariables false
set_option linter.unusedSimpArgs false
theorem compare_lt (x y : Int) (h : x < y) (w : World) : Calls Try.prog 72 #[.int .i64 x, .int .i64 y] w fun r w' => r = .returned (.int .i64 (compareInt x y)) ∧ w' = w := by
 have d1 : decide (x < y) = true := decide_eq_true h
 have HF := Aside0.mk (show compareInt x y = -1 by unfold compareInt; rw [if_pos h])
 have e1 : (x != x) = false := by simp
 have e2 : (y != y) = false := by simp
 clear h
 go_enter Try.func72, Try.ntmps72
 go_wp2
 go_ret
 exact ⟨by rw [HF.out]; rfl, rfl⟩
theorem compare_gt (x y : Int) (h : y < x) (w : World) : Calls Try.prog 72 #[.int .i64 x, .int .i64 y] w fun r w' => r = .returned (.int .i64 (compareInt x y)) ∧ w' = w := by
 have d1 : decide (x < y) = false := decide_eq_false (by omega)
 have d2 : decide (x > y) = true := decide_eq_true h
 have HF := Aside0.mk (show compareInt x y = 1 by unfold compareInt; rw [if_neg (by omega), if_pos h])
 have e1 : (x != x) = false := by simp
 have e2 : (y != y) = false := by simp
 clear h
 go_enter Try.func72, Try.ntmps72
 go_wp2
 go_ret
 exact ⟨by rw [HF.out]; rfl, rfl⟩
theorem compare_eq (x y : Int) (h : x = y) (w : World) : Calls Try.prog 72 #[.int .i64 x, .int .i64 y] w fun r w' => r = .returned (.int .i64 (compareInt x y)) ∧ w' = w := by
 have d1 : decide (x < y) = false := decide_eq_false (by omega)
 have d2 : decide (x > y) = false := decide_eq_false (by omega)
 have HF := Aside0.mk (show compareInt x y = 0 by unfold compareInt; rw [if_neg (by omega), if_neg (by omega)])
 have e1 : (x != x) = false := by simp
 have e2 : (y != y) = false := by simp
 clear h
 go_enter Try.func72, Try.ntmps72
 go_wp2
 go_ret
 exact ⟨by rw [HF.out]; rfl, rfl⟩
theorem compare_any (x y : Int) (w : World) : Calls Try.prog 72 #[.int .i64 x, .int .i64 y] w fun r w' => r = .returned (.int .i64 (compareInt x y)) ∧ w' = w := by
 by_cases h : x < y
 ·exact compare_lt x y h w
 ·by_cases h2 : y < x
  ·exact compare_gt x y h2 w
  ·exact compare_eq x y (by omega) w
theorem or_a (a b : Int) (h : a ≠ 0) {w : World} {g : Nat} (hg : w.heap[g]? = some (.cells #[.int .i64 a, .int .i64 b] 3 (0, 0))) : Calls Try.prog 71 #[.slice (some ⟨g, 0, none⟩) 2 2] w fun r w' => r = .returned (.int .i64 a) ∧ w' = w := by
 have d1 : (a != 0) = true := bne_iff_ne.2 h
 have hlt := blk_lt hg
 have hc0 := (blk_cell hg 0).trans (show _ = some (.int .i64 a) from rfl)
 have hc1 := (blk_cell hg 1).trans (show _ = some (.int .i64 b) from rfl)
 clear hg
 go_enter Try.func71, Try.ntmps71
 go_wp2
 refine wp_loop_rounds 3 ?_
 rw [rounds_succ]
 go_wp2
 go_ret
 exact ⟨rfl, rfl⟩
theorem or_b (a b : Int) (h : a = 0) (h2 : b ≠ 0) {w : World} {g : Nat} (hg : w.heap[g]? = some (.cells #[.int .i64 a, .int .i64 b] 3 (0, 0))) : Calls Try.prog 71 #[.slice (some ⟨g, 0, none⟩) 2 2] w fun r w' => r = .returned (.int .i64 b) ∧ w' = w := by
 subst h
 have d2 : (b != 0) = true := bne_iff_ne.2 h2
 have hlt := blk_lt hg
 have hc0 := (blk_cell hg 0).trans (show _ = some (.int .i64 0) from rfl)
 have hc1 := (blk_cell hg 1).trans (show _ = some (.int .i64 b) from rfl)
 clear hg
 go_enter Try.func71, Try.ntmps71
 go_wp2
 refine wp_loop_rounds 3 ?_
 rw [rounds_succ]
 go_wp2
 rw [rounds_succ]
 go_wp2
 go_ret
 exact ⟨rfl, rfl⟩
theorem or_z (a b : Int) (h : a = 0) (h2 : b = 0) {w : World} {g : Nat} (hg : w.heap[g]? = some (.cells #[.int .i64 a, .int .i64 b] 3 (0, 0))) : Calls Try.prog 71 #[.slice (some ⟨g, 0, none⟩) 2 2] w fun r w' => r = .returned (.int .i64 0) ∧ w' = w := by
 subst h
 subst h2
 have hlt := blk_lt hg
 have hc0 := (blk_cell hg 0).trans (show _ = some (.int .i64 0) from rfl)
 have hc1 := (blk_cell hg 1).trans (show _ = some (.int .i64 0) from rfl)
 clear hg
 go_enter Try.func71, Try.ntmps71
 go_wp2
 refine wp_loop_rounds 3 ?_
 rw [rounds_succ]
 go_wp2
 rw [rounds_succ]
 go_wp2
 rw [rounds_succ]
 go_wp2
 go_ret
 exact ⟨rfl, rfl⟩
theorem or_any (a b : Int) {w : World} {g : Nat} (hg : w.heap[g]? = some (.cells #[.int .i64 a, .int .i64 b] 3 (0, 0))) : Calls Try.prog 71 #[.slice (some ⟨g, 0, none⟩) 2 2] w fun r w' => r = .returned (.int .i64 (if a ≠ 0 then a else b)) ∧ w' = w := by
 by_cases h : a = 0
 ·rw [if_neg (by simpa using h)]
  by_cases h2 : b = 0
  ·rw [h2]; exact or_z a 0 h rfl (h2 ▸ hg)
  ·exact or_b a b h h2 hg
 ·rw [if_pos h]; exact or_a a b h hg
def moR.T1 : Bool × List (List Nat × List Nat) := (true, [([], []), ([0], [0]), ([1], [1]), ([], []), ([3], [3]), ([4], [4]), ([2, 5], [2, 5]), ([], []), ([7], [7]), ([8], [8]), ([], []), ([10], [10]), ([11], [11]), ([9, 12, 6], [9, 12]), ([6, 13], [6, 13]), ([14, 13], [14]), ([15, 15, 0, 1, 2, 3, 4, 5, 6, 7, 8, 9, 10, 11, 12, 13, 14, 15], [15])])
def moR.B1 : List Nat := [0, 1, 3, 0, 8, 24, 63, 0, 128, 384, 0, 1024, 3072, 8191, 16383, 32767, 65535]
theorem moR.tab1 : rtab .any (opsOf Try.f70 1) = moR.T1 := by kernel_rfl
theorem moR.bits1 : waitsOk moR.T1.2 moR.B1 = true := by kernel_rfl
theorem closureA (x y : Tm) (w : World) : Calls Try.prog 70 #[.agg #[.int .i64 x.1.1, .int .i64 x.1.2, .int .i64 x.2], .agg #[.int .i64 y.1.1, .int .i64 y.1.2, .int .i64 y.2]] w fun r w' => r = .returned (.int .i64 (cfT x y)) ∧ ∃ q os', w' = grow (w.drewN q) os' := by
 have HF := Aside0.mk (show cfT x y = if compareInt x.1.1 y.1.1 ≠ 0 then compareInt x.1.1 y.1.1 else compareInt x.1.2 y.1.2 from rfl)
 have HB0 := Aside0.mk (show ((w.alloc (.cells #[.int .i64 x.1.1, .int .i64 x.1.2, .int .i64 x.2] 81)).alloc (.cells #[.int .i64 y.1.1, .int .i64 y.1.2, .int .i64 y.2] 81)).heap[w.heap.size]? = some (.cells #[.int .i64 x.1.1, .int .i64 x.1.2, .int .i64 x.2] 81 (0, 0)) ∧ ((w.alloc (.cells #[.int .i64 x.1.1, .int .i64 x.1.2, .int .i64 x.2] 81)).alloc (.cells #[.int .i64 y.1.1, .int .i64 y.1.2, .int .i64 y.2] 81)).heap[w.heap.size + 1]? = some (.cells #[.int .i64 y.1.1, .int .i64 y.1.2, .int .i64 y.2] 81 (0, 0)) from ⟨blk_alloc (blk_new _ _) _, by have q := blk_new (w.alloc (.cells #[.int .i64 x.1.1, .int .i64 x.1.2, .int .i64 x.2] 81)) (.cells #[.int .i64 y.1.1, .int .i64 y.1.2, .int .i64 y.2] 81); rw [show (w.alloc (.cells #[.int .i64 x.1.1, .int .i64 x.1.2, .int .i64 x.2] 81)).heap.size = w.heap.size + 1 by simp] at q; exact q⟩)
 go_enter Try.func70, Try.ntmps70
 go_upto_region 1 with (fail)
 refine start_ (n := 17) (S := (fun w' => (∀ i, w'.cell? ⟨w.heap.size, i, none⟩ = (#[.int .i64 x.1.1, .int .i64 x.1.2, .int .i64 x.2] : Array Value)[i]?) ∧ (∀ i, w'.cell? ⟨w.heap.size + 1, i, none⟩ = (#[.int .i64 y.1.1, .int .i64 y.1.2, .int .i64 y.2] : Array Value)[i]?))) (ds := []) #[ff,ff,ff,ff,ff,ff,ff,ff,ff,ff,ff,ff,ff,ff,ff,ff,ff] (by kernel_rfl) rfl rfl ⟨fun i => blk_cell (blk_below HB0.out.1 (below_drew (Below.refl _ _))) i, fun i => blk_cell (blk_below HB0.out.2 (below_drew (Below.refl _ _))) i⟩ (fun hHeld => ?_)
 refine with_tabW moR.tab1 moR.bits1 (fun HT_ HW_ => ?_)
 have H3 := Aside0.mk (And.intro (blk_below HB0.out.1 (below_drew (Below.refl _ _))) (blk_below HB0.out.2 (below_drew (Below.refl _ _))))
 obtain ⟨w3, hw3⟩ : ∃ w3, ((w.alloc (.cells #[.int .i64 x.1.1, .int .i64 x.1.2, .int .i64 x.2] 81)).alloc (.cells #[.int .i64 y.1.1, .int .i64 y.1.2, .int .i64 y.2] 81)).drew = w3 := ⟨_, rfl⟩
 rw [hw3] at H3 hHeld ⊢
 have HW3 := Aside0.mk hw3
 clear hw3
 refine pure_ (i := 0) (N := (some 5)) (v := ?_) (a' := ?_) #[tt,ff,ff,ff,ff,ff,ff,ff,ff,ff,ff,ff,ff,ff,ff,ff,ff] rfl rfl (any_of HT_.out (by kernel_rfl)) (fun _ _ _ h => h) (Or.inl ⟨by rfl, ?_⟩) ?_ ?_
 rotate_left
 ·intro w'
  go_simp
  with_reducible rfl
 rotate_left
 ·simp only [Act.put, sQ0, sQ1, sQ2, i64_w]
  rfl
 refine pure_ (i := 1) (N := (some 6)) (v := ?_) (a' := ?_) #[tt,tt,ff,ff,ff,ff,ff,ff,ff,ff,ff,ff,ff,ff,ff,ff,ff] rfl rfl (any_of HT_.out (by kernel_rfl)) (fun _ _ _ h => h) (Or.inl ⟨by rfl, ?_⟩) ?_ ?_
 rotate_left
 ·intro w'
  go_simp
  with_reducible rfl
 rotate_left
 ·simp only [Act.put, sQ0, sQ1, sQ2, i64_w]
  rfl
 refine pure_ (i := 3) (N := (some 8)) (v := ?_) (a' := ?_) #[tt,tt,ff,tt,ff,ff,ff,ff,ff,ff,ff,ff,ff,ff,ff,ff,ff] rfl rfl (any_of HT_.out (by kernel_rfl)) (fun _ _ _ h => h) (Or.inl ⟨by rfl, ?_⟩) ?_ ?_
 rotate_left
 ·intro w'
  go_simp
  with_reducible rfl
 rotate_left
 ·simp only [Act.put, sQ0, sQ1, sQ2, i64_w]
  rfl
 refine pure_ (i := 4) (N := (some 9)) (v := ?_) (a' := ?_) #[tt,tt,ff,tt,tt,ff,ff,ff,ff,ff,ff,ff,ff,ff,ff,ff,ff] rfl rfl (any_of HT_.out (by kernel_rfl)) (fun _ _ _ h => h) (Or.inl ⟨by rfl, ?_⟩) ?_ ?_
 rotate_left
 ·intro w'
  go_simp
  with_reducible rfl
 rotate_left
 ·simp only [Act.put, sQ0, sQ1, sQ2, i64_w]
  rfl
 refine pure_ (i := 7) (N := (some 12)) (v := ?_) (a' := ?_) #[tt,tt,ff,tt,tt,ff,ff,tt,ff,ff,ff,ff,ff,ff,ff,ff,ff] rfl rfl (any_of HT_.out (by kernel_rfl)) (fun _ _ _ h => h) (Or.inl ⟨by rfl, ?_⟩) ?_ ?_
 rotate_left
 ·intro w'
  go_simp
  with_reducible rfl
 rotate_left
 ·simp only [Act.put, sQ0, sQ1, sQ2, i64_w]
  rfl
 refine pure_ (i := 8) (N := (some 13)) (v := ?_) (a' := ?_) #[tt,tt,ff,tt,tt,ff,ff,tt,tt,ff,ff,ff,ff,ff,ff,ff,ff] rfl rfl (any_of HT_.out (by kernel_rfl)) (fun _ _ _ h => h) (Or.inl ⟨by rfl, ?_⟩) ?_ ?_
 rotate_left
 ·intro w'
  go_simp
  with_reducible rfl
 rotate_left
 ·simp only [Act.put, sQ0, sQ1, sQ2, i64_w]
  rfl
 refine pure_ (i := 10) (N := (some 15)) (v := ?_) (a' := ?_) #[tt,tt,ff,tt,tt,ff,ff,tt,tt,ff,tt,ff,ff,ff,ff,ff,ff] rfl rfl (any_of HT_.out (by kernel_rfl)) (fun _ _ _ h => h) (Or.inl ⟨by rfl, ?_⟩) ?_ ?_
 rotate_left
 ·intro w'
  go_simp
  with_reducible rfl
 rotate_left
 ·simp only [Act.put, sQ0, sQ1, sQ2, i64_w]
  rfl
 refine pure_ (i := 11) (N := (some 16)) (v := ?_) (a' := ?_) #[tt,tt,ff,tt,tt,ff,ff,tt,tt,ff,tt,tt,ff,ff,ff,ff,ff] rfl rfl (any_of HT_.out (by kernel_rfl)) (fun _ _ _ h => h) (Or.inl ⟨by rfl, ?_⟩) ?_ ?_
 rotate_left
 ·intro w'
  go_simp
  with_reducible rfl
 rotate_left
 ·simp only [Act.put, sQ0, sQ1, sQ2, i64_w]
  rfl
 refine take_ (i := 2) (N := (some 7)) (v := ?_) (a' := ?_) #[tt,tt,tt,tt,tt,ff,ff,tt,tt,ff,tt,tt,ff,ff,ff,ff,ff] rfl rfl (take_ofW HT_.out HW_.out (by kernel_rfl)) (fun _ _ _ h => h) (Or.inl ⟨by rfl, ?_⟩) hHeld ?_ ?_
 rotate_left
 ·rintro w' ⟨s0, s1⟩
  go_simp
  with_reducible rfl
 rotate_left
 ·simp only [Act.put, sQ0, sQ1, sQ2, i64_w]
  rfl
 refine take_ (i := 5) (N := (some 10)) (v := ?_) (a' := ?_) #[tt,tt,tt,tt,tt,tt,ff,tt,tt,ff,tt,tt,ff,ff,ff,ff,ff] rfl rfl (take_ofW HT_.out HW_.out (by kernel_rfl)) (fun _ _ _ h => h) (Or.inl ⟨by rfl, ?_⟩) hHeld ?_ ?_
 rotate_left
 ·rintro w' ⟨s0, s1⟩
  go_simp
  with_reducible rfl
 rotate_left
 ·simp only [Act.put, sQ0, sQ1, sQ2, i64_w]
  rfl
 refine take_ (i := 9) (N := (some 14)) (v := ?_) (a' := ?_) #[tt,tt,tt,tt,tt,tt,ff,tt,tt,tt,tt,tt,ff,ff,ff,ff,ff] rfl rfl (take_ofW HT_.out HW_.out (by kernel_rfl)) (fun _ _ _ h => h) (Or.inl ⟨by rfl, ?_⟩) hHeld ?_ ?_
 rotate_left
 ·rintro w' ⟨s0, s1⟩
  go_simp
  with_reducible rfl
 rotate_left
 ·simp only [Act.put, sQ0, sQ1, sQ2, i64_w]
  rfl
 refine take_ (i := 12) (N := (some 17)) (v := ?_) (a' := ?_) #[tt,tt,tt,tt,tt,tt,ff,tt,tt,tt,tt,tt,tt,ff,ff,ff,ff] rfl rfl (take_ofW HT_.out HW_.out (by kernel_rfl)) (fun _ _ _ h => h) (Or.inl ⟨by rfl, ?_⟩) hHeld ?_ ?_
 rotate_left
 ·rintro w' ⟨s0, s1⟩
  go_simp
  with_reducible rfl
 rotate_left
 ·simp only [Act.put, sQ0, sQ1, sQ2, i64_w]
  rfl
 refine one_ (i := 6) (N := (some 11)) #[tt,tt,tt,tt,tt,tt,tt,tt,tt,tt,tt,tt,tt,ff,ff,ff,ff] rfl rfl (one_of HT_.out (by kernel_rfl)) (by decide) (fun K hK => ?_)
 refine call_ (f := 72) #[.int .i64 x.1.1, .int .i64 y.1.1] (by rfl) rfl (by go_simp <;> rfl) ?_
 refine ((compare_any _ _ w3).mono fun _ _ ⟨a, b⟩ => ⟨a, b.symm⟩ : Calls Try.prog _ _ w3 fun r w' => _ ∧ w3 = w').mono ?_
 rintro r w4 ⟨rfl, rfl⟩
 refine ⟨_, rfl, ?_⟩
 refine hK.out _ _ ⟨fun i => blk_cell H3.out.1 i, fun i => blk_cell H3.out.2 i⟩ (fun hHeld => ?_)
 clear hK K
 refine norm_ (a' := ?_) ?_ ?_
 rotate_left
 ·show Act.put _ (some 11) _ = _
  simp only [Act.put, sQ0, sQ1, sQ2, i64_w]
  rfl
 refine one_ (i := 13) (N := (some 18)) #[tt,tt,tt,tt,tt,tt,tt,tt,tt,tt,tt,tt,tt,tt,ff,ff,ff] rfl rfl (one_of HT_.out (by kernel_rfl)) (by decide) (fun K hK => ?_)
 refine call_ (f := 72) #[.int .i64 x.1.2, .int .i64 y.1.2] (by rfl) rfl (by go_simp <;> rfl) ?_
 refine ((compare_any _ _ w3).mono fun _ _ ⟨a, b⟩ => ⟨a, b.symm⟩ : Calls Try.prog _ _ w3 fun r w' => _ ∧ w3 = w').mono ?_
 rintro r w4 ⟨rfl, rfl⟩
 refine ⟨_, rfl, ?_⟩
 refine hK.out _ _ ⟨fun i => blk_cell H3.out.1 i, fun i => blk_cell H3.out.2 i⟩ (fun hHeld => ?_)
 clear hK K
 refine norm_ (a' := ?_) ?_ ?_
 rotate_left
 ·show Act.put _ (some 18) _ = _
  simp only [Act.put, sQ0, sQ1, sQ2, i64_w]
  rfl
 refine one_ (i := 14) (N := (some 19)) #[tt,tt,tt,tt,tt,tt,tt,tt,tt,tt,tt,tt,tt,tt,tt,ff,ff] rfl rfl (one_of HT_.out (by kernel_rfl)) (by decide) (fun K hK => ?_)
 refine value_ (by rfl) rfl (v := .slice (some ⟨w3.heap.size, 0, none⟩) 2 2) (w1 := w3.alloc (.cells #[.int .i64 (compareInt x.1.1 y.1.1), .int .i64 (compareInt x.1.2 y.1.2)] 3)) (by go_simp <;> rfl) ?_
 have H4 := Aside0.mk (And.intro (blk_alloc H3.out.1 (.cells #[.int .i64 (compareInt x.1.1 y.1.1), .int .i64 (compareInt x.1.2 y.1.2)] 3)) (blk_alloc H3.out.2 (.cells #[.int .i64 (compareInt x.1.1 y.1.1), .int .i64 (compareInt x.1.2 y.1.2)] 3)))
 refine hK.out _ _ ⟨fun i => blk_cell H4.out.1 i, fun i => blk_cell H4.out.2 i⟩ (fun hHeld => ?_)
 clear hK K
 refine norm_ (a' := ?_) ?_ ?_
 rotate_left
 ·show Act.put _ (some 19) _ = _
  simp only [Act.put, sQ0, sQ1, sQ2, i64_w]
  rfl
 refine one_ (i := 15) (N := (some 20)) #[tt,tt,tt,tt,tt,tt,tt,tt,tt,tt,tt,tt,tt,tt,tt,tt,ff] rfl rfl (one_of HT_.out (by kernel_rfl)) (by decide) (fun K hK => ?_)
 refine call_ (f := 71) #[.slice (some ⟨w3.heap.size, 0, none⟩) 2 2] (by rfl) rfl (by go_simp <;> rfl) ?_
 refine ((or_any _ _ (blk_new w3 (.cells #[.int .i64 (compareInt x.1.1 y.1.1), .int .i64 (compareInt x.1.2 y.1.2)] 3))).mono fun _ _ ⟨a, b⟩ => ⟨a, b.symm⟩ : Calls Try.prog _ _ _ fun r w' => r = .returned (.int .i64 (cfT x y)) ∧ (w3.alloc (.cells #[.int .i64 (compareInt x.1.1 y.1.1), .int .i64 (compareInt x.1.2 y.1.2)] 3)) = w').mono ?_
 rintro r w4 ⟨rfl, rfl⟩
 refine ⟨_, rfl, ?_⟩
 refine hK.out _ _ ⟨fun i => blk_cell H4.out.1 i, fun i => blk_cell H4.out.2 i⟩ (fun hHeld => ?_)
 clear hK K
 refine norm_ (a' := ?_) ?_ ?_
 rotate_left
 ·show Act.put _ (some 20) _ = _
  simp only [Act.put, sQ0, sQ1, sQ2, i64_w]
  rfl
 refine pure_ (i := 16) (N := (some 4)) (v := ?_) (a' := ?_) #[tt,tt,tt,tt,tt,tt,tt,tt,tt,tt,tt,tt,tt,tt,tt,tt,tt] rfl rfl (any_of HT_.out (by kernel_rfl)) (fun _ _ _ h => h) (Or.inl ⟨by rfl, ?_⟩) ?_ ?_
 rotate_left
 ·intro w'
  go_simp
  with_reducible rfl
 rotate_left
 ·simp only [Act.put, sQ0, sQ1, sQ2, i64_w]
  rfl
 refine done_ (done_of HT_.out (by kernel_rfl)) ?_
 clear hHeld
 go_wp2
 go_ret
 refine ⟨rfl, 1, #[.cells #[.int .i64 x.1.1, .int .i64 x.1.2, .int .i64 x.2] 81] ++ (#[.cells #[.int .i64 y.1.1, .int .i64 y.1.2, .int .i64 y.2] 81] ++ #[.cells #[.int .i64 (compareInt x.1.1 y.1.1), .int .i64 (compareInt x.1.2 y.1.2)] 3]), ?_⟩
 rw [← HW3.out, alloc_eq_grow, alloc_eq_grow, alloc_eq_grow]
 rw [← grow_grow, ← grow_grow]
 rfl
end Go.Proofs.Ythniclbmpeklmaa.Mo
end
section
namespace Go.Proofs.Ythniclbmpeklmaa.Mo
open Go.RowKit Go.Maps Go.Shelf Go.Lib Go.Sort Go.Proofs.YthniclbmpeklmaaW.PrintWords Go.Proofs.YthniclbmpeklmaaW.PrintLast Go.Proofs.YthniclbmpeklmaaW.PrintMore Go.Proofs.Ythniclbmpeklmaa.Mp Go.Proofs.Ythniclbmpeklmaa.Ju
open Go.Proofs.Ythniclbmpeklmaa.Au (Ha RowIs flat_get flat_len)
set_option linter.unusedVariables false
set_option linter.unusedSimpArgs false
theorem aggT (w : World) : (isAgg (Try.sortTm_ren.t 24)).run Try.prog w = .ok true w := by kernel_rfl
theorem sizeT (w : World) : (Go.sizeOf (Try.sortTm_ren.t 24)).run Try.prog w = .ok 3 w := by kernel_rfl
theorem cmpT (g size : Nat) (w : World) : CmpLays Try.prog 70 #[] encT 3 cfT g 0 size w := fun _ _ _ _ x y => closureA x y _
theorem sort_any {B : Nat} {w : World} {v : Value} {L : List Tm} (h : RowIs w B 81 3 tmA v L) (hn : L.length ≤ 1000000) :
  Calls Try.prog 69 #[v, .func (.func 70) #[] #[]] w fun r w' => r = .returned (.tuple #[]) ∧ ∃ L' : List Tm, L'.Perm L ∧ (∀ i j (hi : i < L'.length) (hj : j < L'.length), i < j → ¬ ltT L'[j] L'[i]) ∧ RowIs w' B 81 3 tmA v L' ∧ w.grownBy w' v.ownBlock := by
 rcases h.2 with ⟨rfl, h0⟩ | ⟨g, cap, cur, rfl, hB, hg, h1, h2, h3, h4⟩
 ·have := AnyF.slices_SortFunc_none Try.sortTm none 0 (.func (.func 70) #[] #[]) w
  refine this.mono ?_
  rintro r w' ⟨rfl, rfl⟩
  exact ⟨rfl, L, List.Perm.refl _, fun i j hi => by omega, h, ⟨rfl, rfl, rfl, Nat.le_refl _, fun _ _ _ => rfl⟩⟩
 ·have eg : ∀ args w, (callFunc 70 args).run Try.prog w = .ok (.enter 70 args) w := enters_of Try.func70 (by kernel_rfl) rfl
  have hs : L.toArray.size = L.length := by simp
  have hc := AnyQ.slices_SortFunc Try.sortTm 3 aggT sizeT encT (fun _ => rfl) (fun x v hv => by simp [encT] at hv; rcases hv with rfl | rfl | rfl <;> rfl) cfT swoT 70 #[] g 0 cap L.toArray w eg (cmpT g _ w) (holdsT hg h4) (blk_lt hg) (by rw [hs]; omega)
  rw [hs] at hc
  refine hc.mono ?_
  rintro r w' ⟨rfl, d', n, os, hp, hso, rfl⟩
  obtain ⟨p1, _, p2⟩ := hp
  have hl : d'.toList.length = L.length := by rw [Array.length_toList, p1, hs]
  refine ⟨rfl, d'.toList, ?_, fun i j hi hj hij hlt => ?_, ?_, grownT d'⟩
  ·have e1 : d'.extract 0 L.length = d' := by rw [← hs, ← p1]; simp
   have e2 : L.toArray.extract 0 L.length = L.toArray := by rw [← hs]; simp
   rw [e1, e2] at p2
   exact p2
  ·have q := hso i j (Nat.zero_le _) hij (by omega)
   have hi' : i < d'.size := by simpa using hi
   have hj' : j < d'.size := by simpa using hj
   rw [getElem!_pos d' j hj', getElem!_pos d' i hi'] at q
   rw [(ltOf_iff d'[j] d'[i]).2 (by simpa using hlt)] at q
   cases q
  ·have := rowT (n := n) (os := os) (L := L) (L' := d'.toList) hl hB hg h1 h2 h3
   rw [hl] at this
   exact this
end Go.Proofs.Ythniclbmpeklmaa.Mo
end
section
namespace Go.Proofs.Ythniclbmpeklmaa.Mo
open Go.RowKit Go.Maps Go.Shelf Go.Lib Go.Sort Go.Proofs.YthniclbmpeklmaaW.PrintWords Go.Proofs.YthniclbmpeklmaaW.PrintLast Go.Proofs.YthniclbmpeklmaaW.PrintMore Go.Proofs.Ythniclbmpeklmaa.Mp Go.Proofs.Ythniclbmpeklmaa.Ju
open Go.Proofs.Ythniclbmpeklmaa.Au (Ha RowIs flat_get flat_len haV lawH)
set_option linter.unusedVariables false
set_option linter.unusedSimpArgs false
def wfH (h : Ha) : Prop := (Lit.int .i64 h.1).wf = true ∧ (Lit.int .i64 h.2).wf = true
set_option maxRecDepth 100000 in
theorem lits1 (d : Nat) (v : Value) (ls : List Lit) (h : Try.prog.keyLits d 3 [v] = some ls) : ∃ x, v = .int .i64 x ∧ (Lit.int .i64 x).wf = true := by
 have h3 := Try.underlying3
 cases d with
 | zero => simp [Program.keyLits] at h
 | succ d =>
  cases v <;> simp [Program.keyLits, h3] at h
  obtain ⟨⟨rfl, hw⟩, _⟩ := h
  exact ⟨_, rfl, hw⟩
set_option maxRecDepth 100000 in
theorem lits2 (d : Nat) (v0 v1 : Value) (ls : List Lit) (h : Try.prog.keyLits (d + 1) 34 [v0, v1] = some ls) : ∃ l0 l1, Try.prog.keyLits d 3 [v0] = some l0 ∧ Try.prog.keyLits d 3 [v1] = some l1 := by
 have h34 := Try.underlying34
 have c34 : Try.prog.cellsOf 34 = 2 := by kernel_rfl
 have c3 : Try.prog.cellsOf 3 = 1 := by kernel_rfl
 unfold Program.keyLits at h
 rw [h34] at h
 cases q0 : Try.prog.keyLits d 3 [v0] with
 | none => simp [c34, c3, q0] at h
 | some l0 =>
  cases q1 : Try.prog.keyLits d 3 [v1] with
  | none => simp [c34, c3, q0, q1] at h
  | some l1 => exact ⟨l0, l1, rfl, rfl⟩
set_option maxRecDepth 100000 in
theorem keyH_inv {key : Value} {kl : Lit} (h : keyOf Try.prog 34 key = some kl) : ∃ x : Ha, key = haV x ∧ wfH x := by
 have h34 := Try.underlying34
 have c34 : Try.prog.cellsOf 34 = 2 := by kernel_rfl
 have c3 : Try.prog.cellsOf 3 = 1 := by kernel_rfl
 have hk : Try.prog.keyType 34 = true := by kernel_rfl
 have hs : Try.prog.types.size = (Try.prog.types.size - 1) + 1 := by kernel_rfl
 unfold keyOf at h
 rw [h34] at h
 simp only [hk, Bool.true_and] at h
 split at h
 ·rename_i hf
  cases key <;> simp [Value.formed, h34, c34] at hf
  rename_i cs
  obtain ⟨cs⟩ := cs
  match cs, hf with
  | [v0, v1], _ =>
   rw [show (Value.agg ⟨[v0, v1]⟩).cells.toList = [v0, v1] from rfl] at h
   obtain ⟨ls, hl, _⟩ := Option.map_eq_some_iff.1 h
   obtain ⟨l0, l1, hl0, hl1⟩ := lits2 _ _ _ _ hl
   obtain ⟨x, rfl, hx⟩ := lits1 _ _ _ hl0
   obtain ⟨y, rfl, hy⟩ := lits1 _ _ _ hl1
   exact ⟨(x, y), rfl, hx, hy⟩
 ·cases h
structure ArmedIs (m : Md) (L : List Tm) : Prop where
 sorted : ∀ (i j : Nat) (hi : i < L.length) (hj : j < L.length), i < j → ltT L[i] L[j]
 wf : ∀ x ∈ L, wfH x.1
 mem : ∀ (h : Ha) (d : Int), wfH h → ((h, d) ∈ L ↔ m.fat h = some (1, d))
structure Coll (m : Md) (left : Lit → Bool) (L : List Tm) : Prop where
 nd : (L.map Prod.fst).Nodup
 wf : ∀ x ∈ L, wfH x.1
 mem : ∀ (h : Ha) (d : Int) (kl : Lit), keyOf Try.prog 34 (haV h) = some kl → ((h, d) ∈ L ↔ m.fat h = some (1, d) ∧ left kl = false)
theorem haV_inj {x y : Ha} (h : haV x = haV y) : x = y := by
 simp at h
 exact Prod.ext h.1 h.2
theorem Coll.keep {m : Md} {left : Lit → Bool} {L : List Tm} (h : Coll m left L) {x : Ha} {p : Int × Int} {kl : Lit} (hk : keyOf Try.prog 34 (haV x) = some kl) (hl : left kl = true) (hx : m.fat x = some p) :
  (p.1 ≠ 1 → Coll m (fun z => left z && !z.sameKey kl) L) ∧ (p.1 = 1 → Coll m (fun z => left z && !z.sameKey kl) (L ++ [(x, p.2)])) := by
 have hself : kl.sameKey kl = true := WideAt.sameKey_self (lawH.key hk)
 have other : ∀ (y : Ha) (ky : Lit), keyOf Try.prog 34 (haV y) = some ky → y ≠ x → ky.sameKey kl = false := fun y ky hy hne => by
  cases q : ky.sameKey kl with
  | false => rfl
  | true =>
   obtain rfl := WideAt.sameKey_eq q
   exact absurd (haV_inj (lawH.inj hy hk)) hne
 have hno : ∀ d, (x, d) ∉ L := fun d q => by have := ((h.mem x d kl hk).1 q).2; rw [hl] at this; cases this
 refine ⟨fun hp => ⟨h.nd, h.wf, fun y d ky hy => ?_⟩, fun hp => ⟨?_, fun z hz => ?_, fun y d ky hy => ?_⟩⟩
 ·by_cases e : y = x
  ·subst e
   refine ⟨fun q => absurd q (hno d), fun q => ?_⟩
   rw [hx] at q
   exact absurd (congrArg Prod.fst (Option.some.inj q.1)) hp
  ·rw [h.mem y d ky hy, other y ky hy e]; simp
 ·rw [List.map_append, List.nodup_append]
  refine ⟨h.nd, by simp, fun a ha b hb => ?_⟩
  obtain ⟨q, hq, rfl⟩ := List.mem_map.1 ha
  simp at hb
  subst hb
  exact fun e => hno q.2 (by rw [← e]; exact hq)
 ·rcases List.mem_append.1 hz with hz | hz
  ·exact h.wf z hz
  ·obtain rfl := List.mem_singleton.1 hz
   obtain ⟨x', e, hw⟩ := keyH_inv hk
   rw [haV_inj e]; exact hw
 ·rw [List.mem_append, List.mem_singleton]
  by_cases e : y = x
  ·subst e
   obtain rfl : ky = kl := Option.some.inj (hy.symm.trans hk)
   rw [hself]
   simp only [Bool.not_true, Bool.and_false, and_true]
   refine ⟨fun q => ?_, fun q => .inr ?_⟩
   ·rcases q with q | q
    ·exact absurd q (hno d)
    ·obtain rfl : d = p.2 := congrArg Prod.snd q
     rw [hx]
     exact congrArg some (Prod.ext hp rfl)
   ·rw [hx] at q
    obtain rfl := Option.some.inj q
    rfl
  ·rw [h.mem y d ky hy, other y ky hy e]
   simp [e]
theorem Coll.start {m : Md} {D : DataW Value} (hf : ∀ x l, keyOf Try.prog 34 (haV x) = some l → (fV m.fat x = none ∧ has D l = false) ∨ ∃ v, fV m.fat x = some v ∧ has D l = true ∧ ∀ z, D.atKey l z = .held v) : Coll m (has D) [] :=
 ⟨by simp, fun x hx => (by cases hx), fun h d kl hk => ⟨fun q => (by cases q), fun ⟨q1, q2⟩ => by
  rcases hf h kl hk with ⟨q, _⟩ | ⟨_, _, q, _⟩
  ·unfold fV at q; rw [q1] at q; cases q
  ·rw [q] at q2; cases q2⟩⟩
theorem Coll.done {m : Md} {left : Lit → Bool} {L L' : List Tm} (h : Coll m left L) (hl : ∀ kl, left kl = false) (hp : L'.Perm L) (hs : ∀ i j (hi : i < L'.length) (hj : j < L'.length), i < j → ¬ ltT L'[j] L'[i]) : ArmedIs m L' := by
 have hnd : (L'.map Prod.fst).Nodup := (hp.map Prod.fst).nodup_iff.2 h.nd
 refine ⟨fun i j hi hj hij => ?_, fun x hx => h.wf x (hp.mem_iff.1 hx), fun x d hw => ?_⟩
 ·have h1 := hs i j hi hj hij
  have h2 : L'[i].1 ≠ L'[j].1 := fun e => by
   have q := (List.pairwise_iff_getElem.1 hnd) i j (by simpa using hi) (by simpa using hj) hij
   rw [List.getElem_map, List.getElem_map] at q
   exact q e
  have h3 : ¬ (L'[i].1.1 = L'[j].1.1 ∧ L'[i].1.2 = L'[j].1.2) := fun e => h2 (Prod.ext e.1 e.2)
  unfold ltT at *
  omega
 ·obtain ⟨kl, hk⟩ := Go.Proofs.Ythniclbmpeklmaa.Au.keyH x.1 x.2 hw.1 hw.2
  rw [hp.mem_iff, h.mem x d kl hk, hl kl]
  simp
theorem fate_of {m : Md} {D : DataW Value} (hf : ∀ x l, keyOf Try.prog 34 (haV x) = some l → (fV m.fat x = none ∧ has D l = false) ∨ ∃ v, fV m.fat x = some v ∧ has D l = true ∧ ∀ z, D.atKey l z = .held v) {x : Ha} {kl : Lit} {c : Value} (hk : keyOf Try.prog 34 (haV x) = some kl) (hat : ∀ z, D.atKey kl z = .held c) : ∃ p, m.fat x = some p ∧ c = faV p := by
 rcases hf x kl hk with ⟨_, q⟩ | ⟨v, h1, _, h2⟩
 ·have a := hat (.held (.bool true))
  have b := hat (.held (.bool false))
  rw [atKey_of_not_has q] at a b
  rw [← b] at a
  cases a
 ·have a := hat (.held c)
  rw [h2] at a
  injection a with a
  unfold fV at h1
  cases q : m.fat x with
  | none => rw [q] at h1; cases h1
  | some p => rw [q] at h1; exact ⟨p, rfl, by rw [← a]; exact (Option.some.inj h1).symm⟩
end Go.Proofs.Ythniclbmpeklmaa.Mo
end
section
namespace Go.Proofs.Ythniclbmpeklmaa.Mo
open Go.RowKit Go.Maps Go.Shelf Go.Lib Go.Sort Go.Proofs.YthniclbmpeklmaaW.PrintWords Go.Proofs.YthniclbmpeklmaaW.PrintLast Go.Proofs.YthniclbmpeklmaaW.PrintMore Go.Proofs.Ythniclbmpeklmaa.Mp Go.Proofs.Ythniclbmpeklmaa.Ju
open Go.Proofs.Ythniclbmpeklmaa.Au (Ha RowIs flat_get flat_len haV lawH)
set_option linter.unusedVariables false
set_option linter.unusedSimpArgs false
structure Ar (w W : World) (m : Md) (n : Nat) (v : Value) (left : Lit → Bool) (cnt : Nat) (L : List Tm) : Prop where
 row : RowIs W w.heap.size 81 3 tmA v L
 coll : Coll m left L
 len : L.length + cnt ≤ n
 bel : Below w.heap.size w W
theorem tm_info : (Try.prog.info? 81).map (fun i => (i.zero, i.size, i.bytes)) = some (some (.agg #[.int .i64 0, .int .i64 0, .int .i64 0]), 3, 24) := by kernel_rfl
theorem Ar.turn {w W W1 : World} {m : Md} {n : Nat} {v : Value} {left left' : Lit → Bool} {cnt cnt' r : Nat} {L : List Tm} (h : Ar w W m n v left cnt L) (hg : W.grownBy W1 (some r)) (hr : some r ≠ v.ownBlock) (hB : w.heap.size ≤ r) (hc : cnt' ≤ cnt) (hl : Coll m left' L) : Ar w W1 m n v left' cnt' L :=
 ⟨own_other h.row hg (.inr (Ne.symm hr)), hl, by have := h.len; omega, h.bel.grown hg h.bel.size (fun k hk => by cases hk; exact hB)⟩
theorem Ar.alloc {w W : World} {m : Md} {n : Nat} {v : Value} {left : Lit → Bool} {cnt : Nat} {L : List Tm} (h : Ar w W m n v left cnt L) (o : Obj) : Ar w (W.alloc o) m n v left cnt L :=
 ⟨pw_own_below h.row (below_alloc (Below.refl _ _) o), h.coll, h.len, below_alloc h.bel o⟩
theorem row_low {w W : World} {T k : Nat} {α : Type} {A : α → Array Value} {v : Value} {L : List α} {B : Nat} (h : RowIs W B T k A v L) : ∀ q, v.ownBlock = some q → B ≤ q := fun q hq => by
 rcases h.2 with ⟨rfl, _⟩ | ⟨g, cap, cur, rfl, hB, _⟩
 ·cases hq
 ·have e : g = q := by simpa [Value.ownBlock] using hq
  omega
set_option maxHeartbeats 8000000 in
set_option maxRecDepth 100000 in
theorem armed_any {w : World} {B b n m1 m2 : Nat} {m : Md} (h : MdIs w B b n m m1 m2) (hn : n ≤ 1000000) :
  Calls Try.prog 42 #[pA b] w fun r w' => ∃ v L, r = .returned v ∧ RowIs w' w.heap.size 81 3 tmA v L ∧ ArmedIs m L ∧ L.length ≤ n ∧ Below w.heap.size w w' := by
 have hu0 := Try.underlying125
 have hu1 := Try.underlying122
 have hu2 := Try.underlying34
 have hu3 := Try.underlying81
 have hc := fun i => h.cell i
 have hlt := h.lt
 obtain ⟨z, hz, D, hown, hsz, hf⟩ := h.mf
 have HF := Aside0.mk hf
 have HN := Aside0.mk (show z ≤ 1000000 by omega)
 have HZ := Aside0.mk hz
 have HSZ := Aside0.mk hsz
 have hm1 := hown.lt
 have HM1 := Aside0.mk hm1
 clear h hf hn hz
 go_enter Try.func42, Try.ntmps42
 go_wp2_with (first
  | (at_range; refine wpList_range_own _ rfl _ 123 rfl 34 122 lawH Try.underlying123 tokR m1 z D rfl hown ?_; intro w0 hrg0 hg0 hs0)
  | go_in)
 go_frame
 have HS := Aside0.mk (show Ar w w0 m z (.slice none 0 0) (has D) (Maps.size D) [] from ⟨RowIs.nil _ _ _ _ _, Coll.start HF.out, by rw [HSZ.out]; simp, (Below.refl _ _).grown hg0 (Nat.le_refl _) (fun k hk => by cases hk)⟩)
 clear hc hlt hm1 hown hg0 hs0
 go_loopw [3] (fun v3 wr => ∃ (left : Lit → Bool) (cnt : Nat) (L : List Tm) (vo : Value), vo = v3 ∧ wr.ranges Try.prog 34 tokR m1 w.heap.size z D left cnt ∧ Aside0 (Ar w wr m z vo left cnt L)) (fun _ wr => wr.rangeLeft m1 w.heap.size)
 case atStart => exact ⟨_, _, [], _, rfl, hrg0, HS⟩
 case round =>
  clear hrg0 HS
  obtain ⟨left, cnt, L, vo, rfl, hrg, HA⟩ := hrel
  have HRG := Aside0.mk hrg
  go_wp2_with (first
   | (at_next; refine wpList_next_ranges _ rfl _ rfl 34 lawH tokR haV id (fun key kl hk => (keyH_inv hk).elim fun x q => ⟨x, q.1⟩) (fun v y hv => ⟨v, rfl⟩) m1 w.heap.size z D left cnt rfl hrg ?_ ?_)
   | go_in)
  ·intro hc0 hl0
   have HL0 := Aside0.mk hl0
   have CS := Aside0.mk (sort_any HA.out.row (by have := HA.out.len; have := HN.out; omega))
   clear hrg hl0 hc0
   go_wp2_with (first
    | (go_at_call 69; (with_reducible refine CS.out.mono ?_); rintro r w5 ⟨rfl, L', hp, hs, hr, hg⟩; have HE := Aside0.mk (And.intro hp (And.intro hs (And.intro hr hg))); clear hp hs hr hg)
    | go_in)
   go_ret
   exact ⟨_, L', rfl, HE.out.2.2.1, HA.out.coll.done HL0.out HE.out.1 HE.out.2.1, by have h1 := HA.out.len; have h2 := HZ.out; have h3 := HE.out.1.length_eq; omega, HA.out.bel.grown HE.out.2.2.2 HA.out.bel.size (row_low (w := w) HA.out.row)⟩
  ·intro x1 x2 c kl yd yp w1 cnt1 hkey hlk hv hat hrg1 hlt1 hg1 hs1 hen
   obtain ⟨p, hp, hcp⟩ := fate_of HF.out hkey (fun q => by have := hat q; rw [show yd = DataW.held c from congrArg Prod.fst (tok_inv hv)] at this; exact this)
   obtain rfl : c = faV p := hcp
   obtain ⟨st, dl⟩ := p
   have HNE := Aside0.mk (row_ne_iter HA.out.row HRG.out)
   have HNL := Aside0.mk (row_ne_low HA.out.row HM1.out)
   have HK := Aside0.mk (HA.out.coll.keep hkey hlk hp)
   have HLT := Aside0.mk hlt1
   have HRG1 := Aside0.mk hrg1
   have HG1 := Aside0.mk hg1
   clear hs1 hv hat hkey hlk hp hrg hrg1 hg1 hlt1
   have hen' : (Instr.entry (.pointer (some ⟨w.heap.size, 0, none⟩))).run Try.prog w1 = .ok (.tuple #[.agg #[.int .i64 x1, .int .i64 x2], .agg #[.int .i64 st, .int .i64 dl]]) w1 := hen
   clear hen
   by_cases ht : st = 1
   ·have b1 : (st == 1) = true := beq_iff_eq.2 ht
    have HC := Aside0.mk (HK.out.2 ht)
    have HR := Aside0.mk (((HA.out.turn (r := w.heap.size) (cnt' := cnt) HG1.out HNE.out (Nat.le_refl _) (Nat.le_refl _) HA.out.coll).alloc (.cells #[.int .i64 x1, .int .i64 x2] 34)).alloc (.cells #[.int .i64 st, .int .i64 dl] 122))
    have HLL := Aside0.mk (show L.length ≤ 1000000 by have h1 := HA.out.len; have h2 := HN.out; omega)
    clear ht
    go_upto_region 6 with (go_in)
    have HR2 := Aside0.mk (And.intro HR.out (And.intro ((HRG1.out.alloc (.cells #[.int .i64 x1, .int .i64 x2] 34)).alloc (.cells #[.int .i64 st, .int .i64 dl] 122)) (And.intro (blk_alloc (blk_new w1 (.cells #[.int .i64 x1, .int .i64 x2] 34)) (.cells #[.int .i64 st, .int .i64 dl] 122)) (show ((w1.alloc (.cells #[.int .i64 x1, .int .i64 x2] 34)).alloc (.cells #[.int .i64 st, .int .i64 dl] 122)).heap[w1.heap.size + 1]? = some (.cells #[.int .i64 st, .int .i64 dl] 122 (0, 0)) from (by have q := blk_new (w1.alloc (.cells #[.int .i64 x1, .int .i64 x2] 34)) (.cells #[.int .i64 st, .int .i64 dl] 122); rw [show (w1.alloc (.cells #[.int .i64 x1, .int .i64 x2] 34)).heap.size = w1.heap.size + 1 by simp] at q; exact q)))))
    clear HR
    generalize (w1.alloc (.cells #[.int .i64 x1, .int .i64 x2] 34)).alloc (.cells #[.int .i64 st, .int .i64 dl] 122) = W3 at HR2 ⊢
    have HR := Aside0.mk HR2.out.1
    have hl3 := blk_lt HR2.out.2.2.1
    have hl4 := blk_lt HR2.out.2.2.2
    have hc3 := fun i => blk_cell HR2.out.2.2.1 i
    have hc4 := fun i => blk_cell HR2.out.2.2.2 i
    go_wp2_with (first
     | (at_builtin; go_loud (refine RowIs.append_wpl (by rfl) 78 24 _ _ _ Try.underlying78 tm_info rfl (by decide) rfl HR.out.row ((x1, x2), dl) rfl (by simp [Value.oneCell']) (by rfl) (by rfl) HLL.out (by decide) HR.out.bel.size ?_; intro gg cap6 w6 hown hgrow hat6; have HO := Aside0.mk hown; have HGR := Aside0.mk hgrow; clear hown hgrow hat6))
     | go_in)
    have hrg2 := (HR2.out.2.1.alloc (.cells (tmA ((x1, x2), dl)) 81)).kept HGR.out HNL.out HNE.out
    go_roundw
    case rel => exact ⟨_, cnt1, L ++ [((x1, x2), dl)], _, rfl, hrg2, ⟨⟨HO.out, HC.out, by have h1 := HA.out.len; have h2 := HLT.out; simp; omega, (below_alloc HR.out.bel _).grown HGR.out (below_alloc HR.out.bel _).size (row_low (w := w) HA.out.row)⟩⟩⟩
    case measure => rw [hrg2.left_eq, HRG.out.left_eq]; exact HLT.out
   ·have b1 : (st == 1) = false := beq_eq_false_iff_ne.2 ht
    have HC := Aside0.mk (HK.out.1 ht)
    have HR := Aside0.mk (((HA.out.turn (r := w.heap.size) (cnt' := cnt1) HG1.out HNE.out (Nat.le_refl _) (Nat.le_of_lt HLT.out) HC.out).alloc (.cells #[.int .i64 x1, .int .i64 x2] 34)).alloc (.cells #[.int .i64 st, .int .i64 dl] 122))
    clear ht
    go_wp2
    have hrg2 := ((HRG1.out.alloc (.cells #[.int .i64 x1, .int .i64 x2] 34)).alloc (.cells #[.int .i64 st, .int .i64 dl] 122))
    go_roundw
    case rel => exact ⟨_, cnt1, L, _, rfl, hrg2, HR⟩
    case measure => rw [hrg2.left_eq, HRG.out.left_eq]; exact HLT.out
end Go.Proofs.Ythniclbmpeklmaa.Mo
end
section
namespace Go.Proofs.Ythniclbmpeklmaa.Ju
open Go.RowKit Go.Proofs.Ythniclbmpeklmaa.Au
set_option linter.unusedVariables false
set_option linter.unusedSimpArgs false
theorem right_op {e : Ev} (h : rightJ e = true) (hk : e.k = 3) : 1 ≤ e.op ∧ e.op ≤ 4 ∧ 0 ≤ e.ng ∧ 0 ≤ e.nn := by
 unfold rightJ Ev.evRight Ev.kindB at h
 rw [hk] at h
 simp at h
 omega
inductive Did (m : Md) (e : Ev) : Md → Prop
 | tick (hk : e.k = 1) (ht : e.t = wrap64 (m.clk + 1)) : Did m e { m with clk := e.t }
 | fire (hk : e.k = 4) (ha : m.st e.h = 1) (hd : m.dl e.h ≤ e.t) (hc : e.t ≤ m.clk) : Did m e (m.end_ e.h 2)
 | cancel (hk : e.k = 3) (ho : e.op = 2) (hy : e.y = true) (ha : m.st e.h = 1) : Did m e (m.end_ e.h 3)
 | same (hk : e.k = 3) (hm : mk1 e = false) (he : ends e = false) : Did m e m
 | start (hk : e.k = 3) (ho : e.op = 1) (he : e.er = 0) (hs : m.startOk e.new = true) : Did m e (m.arm e.new e.t)
 | rearm (hk : e.k = 3) (ho : e.op = 3) (he : e.er = 0) (ha : m.st e.h = 1) (h1 : e.nn = e.hn) (h2 : e.ng = wrap64 (e.hg + 1)) : Did m e ((m.end_ e.h 4).arm e.new e.t)
theorem did {m : Md} {e : Ev} (h : (doF m e).2 = 0) : rightJ e = true ∧ Did m e (doF m e).1 := by
 unfold doF at h ⊢
 by_cases hr : rightJ e = false
 ·rw [if_pos hr] at h; simp at h
 rw [if_neg hr] at h ⊢
 have hr' : rightJ e = true := by simpa using hr
 refine ⟨hr', ?_⟩
 by_cases k1 : e.k = 1
 ·rw [if_pos k1] at h ⊢
  by_cases ht : e.t = wrap64 (m.clk + 1)
  ·rw [if_pos ht]; exact .tick k1 ht
  ·rw [if_neg ht] at h; simp at h
 rw [if_neg k1] at h ⊢
 by_cases k4 : e.k = 4
 ·rw [if_pos k4] at h ⊢
  by_cases hc : m.st e.h = 1 ∧ m.dl e.h ≤ e.t ∧ e.t ≤ m.clk
  ·rw [if_pos hc]; exact .fire k4 hc.1 hc.2.1 hc.2.2
  ·rw [if_neg hc] at h; simp at h
 rw [if_neg k4] at h ⊢
 by_cases k3 : e.k = 3
 ·rw [if_pos k3] at h ⊢
  obtain ⟨o1, o4, _⟩ := right_op hr' k3
  unfold pointF at h ⊢
  by_cases c1 : e.op = 2 ∧ e.y = true
  ·rw [if_pos c1] at h ⊢
   by_cases ha : m.st e.h = 1
   ·rw [if_pos ha]; exact .cancel k3 c1.1 c1.2 ha
   ·rw [if_neg ha] at h; simp at h
  rw [if_neg c1] at h ⊢
  by_cases c2 : e.op = 2 ∨ (e.er = 4 ∧ e.op ≠ 1)
  ·rw [if_pos c2] at h ⊢
   have hs : Did m e m := .same k3 (by
    unfold mk1
    rcases c2 with c2 | ⟨c2, _⟩
    ·rw [c2]; simp
    ·rw [c2]; simp) (by
    unfold ends
    rcases c2 with c2 | ⟨c2, _⟩
    ·have : ¬ e.y = true := fun q => c1 ⟨c2, q⟩
     simp [c2, k3, this]
    ·simp [c2, k3]
     intro q
     have : ¬ e.y = true := fun z => c1 ⟨q, z⟩
     simpa using this)
   by_cases ha : m.st e.h = 1
   ·rw [if_pos ha] at h; simp at h
   ·rw [if_neg ha]; exact hs
  rw [if_neg c2] at h ⊢
  have n2 : e.op ≠ 2 := fun q => c2 (.inl q)
  by_cases c3 : e.er ≠ 0
  ·rw [if_pos c3]
   exact .same k3 (by unfold mk1; simp [c3]) (by unfold ends; simp [k3, n2, c3])
  rw [if_neg c3] at h ⊢
  have e0 : e.er = 0 := by omega
  by_cases c4 : e.op = 1
  ·rw [if_pos c4] at h ⊢
   by_cases hs : m.startOk e.new = true
   ·rw [if_pos hs]; exact .start k3 c4 e0 hs
   ·rw [if_neg hs] at h; simp at h
  rw [if_neg c4] at h ⊢
  by_cases c5 : e.op = 4
  ·rw [if_pos c5] at h ⊢
   have hs : Did m e m := .same k3 (by unfold mk1; simp [c5]) (by unfold ends; simp [k3, c5])
   by_cases ha : m.st e.h = 1
   ·rw [if_pos ha]; exact hs
   ·rw [if_neg ha] at h; simp at h
  rw [if_neg c5] at h ⊢
  by_cases hc : m.st e.h = 1 ∧ e.nn = e.hn ∧ e.ng = wrap64 (e.hg + 1)
  ·rw [if_pos hc]; exact .rearm k3 (by omega) e0 hc.1 hc.2.1 hc.2.2
  ·rw [if_neg hc] at h; simp at h
 ·rw [if_neg k3] at h; simp at h
structure MInv (m : Md) : Prop where
 top : ∀ h, m.fat h ≠ none → ∃ g, m.lst h.1 = some g ∧ h.2 ≤ g
 arm : ∀ h, m.st h = 1 → m.lst h.1 = some h.2
theorem st_fat {m : Md} {h : Ha} (hs : m.st h = 1) : m.fat h ≠ none := fun q => by unfold Md.st at hs; rw [q] at hs; simp at hs
theorem st_upd (m : Md) (h x : Ha) (v : Int × Int) : ({ m with fat := updF m.fat h v } : Md).st x = if x = h then v.1 else m.st x := by
 unfold Md.st updF
 by_cases e : x = h <;> simp [e]
theorem end_st (m : Md) (h x : Ha) (s : Int) : (m.end_ h s).st x = if x = h then s else m.st x := st_upd m h x (s, 0)
theorem arm_st (m : Md) (h x : Ha) (d : Int) : (m.arm h d).st x = if x = h then 1 else m.st x := st_upd m h x (1, d)
theorem end_fat (m : Md) (h x : Ha) (s : Int) : (m.end_ h s).fat x = if x = h then some (s, 0) else m.fat x := rfl
theorem arm_fat (m : Md) (h x : Ha) (d : Int) : (m.arm h d).fat x = if x = h then some (1, d) else m.fat x := rfl
theorem arm_lst (m : Md) (h : Ha) (d : Int) (n : Int) : (m.arm h d).lst n = if n = h.1 then some h.2 else m.lst n := rfl
theorem MInv0 : MInv md0 := ⟨fun h q => absurd rfl q, fun h q => by simp [md0, Md.st] at q⟩
theorem MInv.end_ {m : Md} (h : MInv m) {x : Ha} (hx : m.fat x ≠ none) {s : Int} (hs : s ≠ 1) : MInv (m.end_ x s) := by
 constructor
 ·intro y hy
  rw [end_fat] at hy
  by_cases e : y = x
  ·rw [e]; exact h.top x hx
  ·rw [if_neg e] at hy; exact h.top y hy
 ·intro y hy
  rw [end_st] at hy
  by_cases e : y = x
  ·rw [if_pos e] at hy; omega
  ·rw [if_neg e] at hy; exact h.arm y hy
theorem MInv.arm_ {m : Md} (h : MInv m) {x : Ha} {d : Int} (hn : ∀ g, m.lst x.1 = some g → g < x.2) (ha : ∀ y : Ha, y.1 = x.1 → m.st y ≠ 1) : MInv (m.arm x d) := by
 constructor
 ·intro y hy
  rw [arm_fat] at hy
  rw [arm_lst]
  by_cases e : y = x
  ·rw [e, if_pos rfl]; exact ⟨_, rfl, Int.le_refl _⟩
  ·rw [if_neg e] at hy
   obtain ⟨g, h1, h2⟩ := h.top y hy
   by_cases e1 : y.1 = x.1
   ·rw [if_pos e1]
    rw [e1] at h1
    have := hn g h1
    exact ⟨_, rfl, by omega⟩
   ·rw [if_neg e1]; exact ⟨g, h1, h2⟩
 ·intro y hy
  rw [arm_st] at hy
  rw [arm_lst]
  by_cases e : y = x
  ·rw [e, if_pos rfl]
  ·rw [if_neg e] at hy
   have e1 : y.1 ≠ x.1 := fun q => ha y q hy
   rw [if_neg e1]
   exact h.arm y hy
theorem MInv.start {m : Md} (h : MInv m) {x : Ha} (hs : m.startOk x = true) : (∀ g, m.lst x.1 = some g → g < x.2) ∧ (∀ y : Ha, y.1 = x.1 → m.st y ≠ 1) ∧ m.fat x = none := by
 unfold Md.startOk at hs
 have h1 : ∀ g, m.lst x.1 = some g → m.st (x.1, g) ≠ 1 ∧ g < x.2 := fun g hg => by
  rw [hg] at hs
  simpa using hs
 refine ⟨fun g hg => (h1 g hg).2, fun y hy hq => ?_, ?_⟩
 ·have := h.arm y hq
  rw [hy] at this
  have := (h1 _ this).1
  rw [← hy] at this
  exact this hq
 ·cases hf : m.fat x with
  | none => rfl
  | some v =>
   obtain ⟨g, hg, hle⟩ := h.top x (by rw [hf]; simp)
   have := (h1 g hg).2
   omega
theorem wrap_next {g n : Int} (hg : (Lit.int .i64 g).wf = true) (h0 : 0 ≤ n) (h : n = wrap64 (g + 1)) : n = g + 1 := by
 have h1 : IntKind.i64.min = -9223372036854775808 := rfl
 simp [Lit.wf, h1] at hg
 unfold wrap64 at h
 omega
theorem MInv.rearm {m : Md} (h : MInv m) {x y : Ha} (ha : m.st x = 1) (h1 : y.1 = x.1) (h2 : y.2 = x.2 + 1) {d : Int} : m.fat y = none ∧ MInv ((m.end_ x 4).arm y d) := by
 have hl := h.arm x ha
 have hx := st_fat ha
 have hy : m.fat y = none := by
  cases hf : m.fat y with
  | none => rfl
  | some v =>
   obtain ⟨g, hg, hle⟩ := h.top y (by rw [hf]; simp)
   rw [h1, hl] at hg
   have := Option.some.inj hg
   omega
 refine ⟨hy, (h.end_ hx (by omega)).arm_ (fun g hg => ?_) (fun z hz hq => ?_)⟩
 ·have hg' : m.lst y.1 = some g := hg
  rw [h1, hl] at hg'
  have := Option.some.inj hg'
  omega
 ·rw [end_st] at hq
  by_cases e : z = x
  ·rw [if_pos e] at hq; omega
  ·rw [if_neg e] at hq
   have h3 := h.arm z hq
   rw [hz, h1, hl] at h3
   exact e (Prod.ext (hz.trans h1) (Option.some.inj h3).symm)
theorem MInv.did {m m' : Md} {e : Ev} (h : MInv m) (hr : rightJ e = true) (hw : (Lit.int .i64 e.hg).wf = true) (hd : Did m e m') : MInv m' := by
 cases hd with
 | tick => exact ⟨h.top, h.arm⟩
 | fire hk ha => exact h.end_ (st_fat ha) (by omega)
 | cancel hk ho hy ha => exact h.end_ (st_fat ha) (by omega)
 | same => exact h
 | start hk ho he hs =>
  obtain ⟨a, b, c⟩ := h.start hs
  exact h.arm_ a b
 | rearm hk ho he ha h1 h2 => exact (h.rearm ha h1 (wrap_next hw (right_op hr hk).2.2.1 h2)).2
end Go.Proofs.Ythniclbmpeklmaa.Ju
end
section
namespace Go.Proofs.Ythniclbmpeklmaa.Ju
open Go.RowKit Go.Maps Go.Proofs.YthniclbmpeklmaaW.PrintWords Go.Proofs.YthniclbmpeklmaaW.PrintLast Go.Proofs.YthniclbmpeklmaaW.PrintMore Go.Proofs.Ythniclbmpeklmaa.Mp Go.Proofs.Ythniclbmpeklmaa.Au
set_option linter.unusedVariables false
set_option linter.unusedSimpArgs false
attribute [local go_sem high] Ev.eqHa
section
variable {w W W1 : World} {B : Nat}
end
section
variable {w W W1 : World} {B b n mb m1 m2 m3 eb : Nat} {s : Be} {pf : Int → Option Nat} {e : Ev}
end
section
variable {w W W1 : World} {B b n mb m1 m2 m3 eb g : Nat} {s : Be} {pf : Int → Option Nat} {e iv : Ev} {beg : Int} {pp : Option Addr}
end
end Go.Proofs.Ythniclbmpeklmaa.Ju
end
section
namespace Go.Proofs.Ythniclbmpeklmaa.Ju
open Go.RowKit Go.Maps Go.Proofs.YthniclbmpeklmaaW.PrintWords Go.Proofs.YthniclbmpeklmaaW.PrintLast Go.Proofs.YthniclbmpeklmaaW.PrintMore Go.Proofs.Ythniclbmpeklmaa.Mp Go.Proofs.Ythniclbmpeklmaa.Au
set_option linter.unusedVariables false
set_option linter.unusedSimpArgs false
attribute [local go_sem high] Ev.eqHa
end Go.Proofs.Ythniclbmpeklmaa.Ju
end
section
namespace Go.Proofs.Ythniclbmpeklmaa.Ju
open Go.RowKit Go.Maps Go.Proofs.YthniclbmpeklmaaW.PrintWords Go.Proofs.YthniclbmpeklmaaW.PrintLast Go.Proofs.YthniclbmpeklmaaW.PrintMore Go.Proofs.Ythniclbmpeklmaa.Mp Go.Proofs.Ythniclbmpeklmaa.Au
set_option linter.unusedVariables false
set_option linter.unusedSimpArgs false
attribute [local go_sem high] Ev.eqHa
end Go.Proofs.Ythniclbmpeklmaa.Ju
end
section
namespace Go.Proofs.Ythniclbmpeklmaa.Ju
open Go.RowKit Go.Maps Go.Proofs.YthniclbmpeklmaaW.PrintWords Go.Proofs.YthniclbmpeklmaaW.PrintLast Go.Proofs.YthniclbmpeklmaaW.PrintMore Go.Proofs.Ythniclbmpeklmaa.Mp Go.Proofs.Ythniclbmpeklmaa.Au
set_option linter.unusedVariables false
set_option linter.unusedSimpArgs false
def wfJ (e : Ev) : Prop := ((Lit.int .i64 e.hn).wf = true ∧ (Lit.int .i64 e.hg).wf = true ∧ (Lit.int .i64 e.nn).wf = true ∧ (Lit.int .i64 e.ng).wf = true) ∧ (Lit.int .i64 e.wk).wf = true
def LstOk (m : Md) : Prop := ∀ x, (Lit.int .i64 ((m.lst x).getD 0)).wf = true
theorem lst_arm {m : Md} (h : LstOk m) {x : Ha} {d : Int} (hx : (Lit.int .i64 x.2).wf = true) : LstOk (m.arm x d) := fun y => by
 show (Lit.int .i64 ((updL m.lst x.1 x.2 y).getD 0)).wf = true
 unfold updL
 by_cases q : y = x.1
 ·rw [if_pos q]; exact hx
 ·rw [if_neg q]; exact h y
theorem lst_end {m : Md} (h : LstOk m) (x : Ha) (s : Int) : LstOk (m.end_ x s) := h
theorem lst_point {m : Md} {e : Ev} (h : LstOk m) (hw : wfJ e) : LstOk (pointF m e).1 := by
 unfold pointF
 split
 ·split
  ·exact lst_end h _ _
  ·exact h
 ·split
  ·split <;> exact h
  ·split
   ·exact h
   ·split
    ·split
     ·exact lst_arm h hw.1.2.2.2
     ·exact h
    ·split
     ·split <;> exact h
     ·split
      ·exact lst_arm (lst_end h _ _) hw.1.2.2.2
      ·exact h
theorem lst_do {m : Md} {e : Ev} (h : LstOk m) (hw : wfJ e) : LstOk (doF m e).1 := by
 have hp := lst_point h hw
 unfold doF
 generalize pointF m e = q at hp ⊢
 split
 ·exact h
 ·split
  ·split <;> exact h
  ·split
   ·split
    ·exact lst_end h _ _
    ·exact h
   ·split
    ·exact hp
    ·exact h
def EvIn (w : World) (A : Option Addr) (i : Nat) (e : Ev) : Prop := ∃ ad, A = some ad ∧ w.cell? (ad.add (i * 12)) = some (.int .i64 e.k) ∧ w.cell? ⟨(ad.add (i * 12)).block, (ad.add (i * 12)).off + 1, none⟩ = some (.int .i64 e.wk) ∧ w.cell? ⟨(ad.add (i * 12)).block, (ad.add (i * 12)).off + 2, none⟩ = some (.int .i64 e.op) ∧ w.cell? ⟨(ad.add (i * 12)).block, (ad.add (i * 12)).off + 3, none⟩ = some (.int .i64 e.hn) ∧ w.cell? ⟨(ad.add (i * 12)).block, (ad.add (i * 12)).off + 4, none⟩ = some (.int .i64 e.hg) ∧ w.cell? ⟨(ad.add (i * 12)).block, (ad.add (i * 12)).off + 5, none⟩ = some (.int .i64 e.nn) ∧ w.cell? ⟨(ad.add (i * 12)).block, (ad.add (i * 12)).off + 6, none⟩ = some (.int .i64 e.ng) ∧ w.cell? ⟨(ad.add (i * 12)).block, (ad.add (i * 12)).off + 7, none⟩ = some (.int .i64 e.t) ∧ w.cell? ⟨(ad.add (i * 12)).block, (ad.add (i * 12)).off + 8, none⟩ = some (.int .i64 e.a) ∧ w.cell? ⟨(ad.add (i * 12)).block, (ad.add (i * 12)).off + 9, none⟩ = some (.int .i64 e.u) ∧ w.cell? ⟨(ad.add (i * 12)).block, (ad.add (i * 12)).off + 10, none⟩ = some (.bool e.y) ∧ w.cell? ⟨(ad.add (i * 12)).block, (ad.add (i * 12)).off + 11, none⟩ = some (.int .i64 e.er)
theorem EvIn.below {w w1 : World} {A : Option Addr} {i : Nat} {e : Ev} (h : EvIn w A i e) (hb : Below w.heap.size w w1) : EvIn w1 A i e := by
 obtain ⟨ad, h0, h1, h2, h3, h4, h5, h6, h7, h8, h9, h10, h11, h12⟩ := h
 exact ⟨ad, h0, (pw_cell_below hb h1), (pw_cell_below hb h2), (pw_cell_below hb h3), (pw_cell_below hb h4), (pw_cell_below hb h5), (pw_cell_below hb h6), (pw_cell_below hb h7), (pw_cell_below hb h8), (pw_cell_below hb h9), (pw_cell_below hb h10), (pw_cell_below hb h11), (pw_cell_below hb h12)⟩
end Go.Proofs.Ythniclbmpeklmaa.Ju
end
section
namespace Go.Proofs.Ythniclbmpeklmaa.Ju
open Go.RowKit Go.Maps Go.Proofs.YthniclbmpeklmaaW.PrintWords Go.Proofs.YthniclbmpeklmaaW.PrintLast Go.Proofs.YthniclbmpeklmaaW.PrintMore Go.Proofs.Ythniclbmpeklmaa.Mp Go.Proofs.Ythniclbmpeklmaa.Au
set_option linter.unusedVariables false
set_option linter.unusedSimpArgs false
def wfB' (e : Ev) : Bool := (Lit.int .i64 e.wk).wf && (Lit.int .i64 e.hn).wf && (Lit.int .i64 e.hg).wf && (Lit.int .i64 e.nn).wf && (Lit.int .i64 e.ng).wf
theorem wfJ_of {e : Ev} (h : wfB' e = true) : wfJ e := by
 simp only [wfB', Bool.and_eq_true] at h
 exact ⟨⟨h.1.1.1.2, h.1.1.2, h.1.2, h.2⟩, h.1.1.1.1⟩
end Go.Proofs.Ythniclbmpeklmaa.Ju
end
