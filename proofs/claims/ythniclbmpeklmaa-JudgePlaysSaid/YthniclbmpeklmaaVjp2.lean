/- What is proved: a part of the way to the statement JudgePlaysSaid: Mp, Mq, Me, AuP, AuQ, AuS, AuA, EvA, EvB, EvC, EvD, JuP, JuM, JuA, EvE, EvG, EvF, EvH, EvI, EvJ, JuB, JuC, JuD; no conditions. Put together by a program of this session (claimv.py). -/
import Derived.Maps.OwnSet
import Derived.DeepKeys4
import Derived.Maps.OwnOps
import Derived.WideKeyEntry
import Derived.Test.YthniclbmpeklmaaProg
import Derived.WalkKit
import Derived.KernelRfl
import Derived.Maps.AppendAt
import Derived.Deep.AppendLies
import Derived.Deep.LoopGhost
import Derived.Deep.QuietTactic
import Derived.BigQuiet
import Derived.Laws.CopyOwn
import Derived.Laws.Rows
import Derived.StillTailTactics
import Derived.Handy
import Derived.Laws.Bits
import Derived.Deep.RegionWith
import Derived.Deep.RegionHeld3
import Derived.Test.YthniclbmpeklmaaVjp1
section
namespace Go.Proofs.Ythniclbmpeklmaa
abbrev tt : Bool := true
abbrev ff : Bool := false
theorem sQ0 {α : Type} {l : List α} {i : Nat} {a : α} : l.toArray.setIfInBounds i a = (l.set i a).toArray := by rw [List.setIfInBounds_toArray]
theorem sQ1 {α : Type} {a b : α} {l : List α} : (a :: l).set 0 b = b :: l := rfl
theorem sQ2 {α : Type} {a b : α} {l : List α} {n : Nat} : (a :: l).set (n + 1) b = a :: l.set n b := rfl
end Go.Proofs.Ythniclbmpeklmaa
namespace Go.Proofs.Ythniclbmpeklmaa.Mp
open Go.RowKit Go.Maps
set_option linter.unusedSectionVars false
def tokR (v : Value) : Option (DataW Value × List MemPlace) := some (.held v, [])
def MapIs {κ : Type} (c : κ → Value) (P : Program) (k : TypeId) (w : World) (b s : Nat) (f : κ → Option Value) : Prop :=
 ∃ D : DataW Value, w.ownsMap P k tokR b s D ∧ Maps.size D = s ∧ ∀ x l, keyOf P k (c x) = some l → (f x = none ∧ has D l = false) ∨ ∃ v, f x = some v ∧ has D l = true ∧ ∀ z, D.atKey l z = .held v
section
variable {κ : Type} [DecidableEq κ] {c : κ → Value} {P : Program} {k t e : TypeId} {w : World} {b s : Nat} {f : κ → Option Value}
theorem owns_exact {H : Type} {R : Value → Option (DataW H × List MemPlace)} {n : Nat} {D : DataW H} (h : w.ownsMap P k R b n D) : w.ownsMap P k R b (Maps.size D) D := by
 obtain ⟨es, clock, hb, F, _, rfl⟩ := h
 exact ⟨es, clock, hb, F, by simp [Maps.size, length_sorted], rfl⟩
omit [DecidableEq κ] in
theorem MapIs.made (w : World) (P : Program) (k : TypeId) : MapIs c P k (w.alloc (.map #[] 0)) w.heap.size 0 (fun _ => none) :=
 ⟨.map [], World.ownsMap_made w P k tokR, rfl, fun _ _ _ => .inl ⟨rfl, rfl⟩⟩
theorem MapIs.lt (h : MapIs c P k w b s f) : b < w.heap.size := by obtain ⟨D, h, _⟩ := h; exact h.lt
theorem MapIs.move {w' : World} (h : MapIs c P k w b s f) (hb : w'.heap[b]? = w.heap[b]?) : MapIs c P k w' b s f := by
 obtain ⟨D, ⟨es, clock, h1, h2⟩, h3⟩ := h
 exact ⟨D, ⟨es, clock, hb.trans h1, h2⟩, h3⟩
theorem MapIs.look_ok (h : MapIs c P k w b s f) (K : Keyed P k) (ht : P.underlying t = some (.map k e)) {z : Value} (hz : (zeroValue e).run P w = .ok z w) {x : κ} {kl : Lit} (hkey : keyOf P k (c x) = some kl) :
  (Instr.lookup t (.map (some b)) (c x) true).run P w = .ok (.tuple #[(f x).getD z, .bool (f x).isSome]) w := by
 obtain ⟨D, ho, _, hf⟩ := h
 obtain ⟨v, ps, hrun, hv⟩ := ho.look_ok K ht hz (zd := .held z) (zp := []) rfl hkey
 rw [hrun]
 have hv' := congrArg Prod.fst (Option.some.inj hv)
 rcases hf x kl hkey with ⟨h1, h2⟩ | ⟨y, h1, h2, h3⟩
 ·rw [h1, h2]
  rw [atKey_of_not_has h2] at hv'
  injection hv' with hv'
  rw [hv']; rfl
 ·rw [h1, h2]
  rw [h3] at hv'
  injection hv' with hv'
  rw [hv']; rfl
theorem MapIs.look (h : MapIs c P k w b s f) (K : Keyed P k) (ht : P.underlying t = some (.map k e)) {z : Value} (hz : (zeroValue e).run P w = .ok z w) {x : κ} {kl : Lit} (hkey : keyOf P k (c x) = some kl) :
  (Instr.lookup t (.map (some b)) (c x) false).run P w = .ok ((f x).getD z) w := by
 obtain ⟨D, ho, _, hf⟩ := h
 obtain ⟨v, ps, hrun, hv⟩ := ho.lookup K ht hz (zd := .held z) (zp := []) rfl hkey
 rw [hrun]
 have hv' := congrArg Prod.fst (Option.some.inj hv)
 rcases hf x kl hkey with ⟨h1, h2⟩ | ⟨y, h1, h2, h3⟩
 ·rw [h1]
  rw [atKey_of_not_has h2] at hv'
  injection hv' with hv'
  rw [hv']; rfl
 ·rw [h1]
  rw [h3] at hv'
  injection hv' with hv'
  rw [hv']; rfl
theorem MapIs.len (h : MapIs c P k w b s f) (ht : P.underlying t = some (.map k e)) (ty : TypeId) : (Builtin.len_ #[t] ty #[.map (some b)]).run P w = .ok (.int .i64 s) w := by
 obtain ⟨D, ho, hs, _⟩ := h
 rw [ho.len ht ty, hs]
theorem MapIs.store (hc : ∀ x y, c x = c y → x = y) (h : MapIs c P k w b s f) (K : Keyed P k) (ht : P.underlying t = some (.map k e)) (hn : s < maxLen) {x : κ} {kl : Lit} (hkey : keyOf P k (c x) = some kl) (val : Value) :
  ∃ w', (Instr.mapUpdate t (.map (some b)) (c x) val).run P w = .ok () w' ∧ MapIs c P k w' b (if (f x).isSome then s else s + 1) (fun l => if l = x then some val else f l) ∧ w.mapTurned w' b := by
 obtain ⟨D, ho, hs, hf⟩ := h
 have hT := ho.tidy K
 obtain ⟨w', hrun, ho', hm⟩ := ho.store K ht hn hkey (show tokR val = some (.held val, []) from rfl)
 have hkl := K.key hkey
 have hsz : Maps.size (D.put kl (.held val)) = (if (f x).isSome then s else s + 1) := by
  rw [size_put hT, hs]
  rcases hf x kl hkey with ⟨h1, h2⟩ | ⟨y, h1, h2, h3⟩
  ·rw [h1, h2]; rfl
  ·rw [h1, h2]; rfl
 refine ⟨w', hrun, ⟨D.put kl (.held val), hsz ▸ owns_exact ho', hsz, fun l m hm' => ?_⟩, hm⟩
 by_cases hl : l = x
 ·subst hl
  obtain rfl : kl = m := Option.some.inj (hkey.symm.trans hm')
  exact .inr ⟨val, if_pos rfl, has_put_same hT.isMap hkl _, fun z => atKey_put_same hT.isMap hkl _ _⟩
 ·have hne : m ≠ kl := fun e => hl (hc _ _ (K.inj hm' (e ▸ hkey)))
  rcases hf l m hm' with ⟨h1, h2⟩ | ⟨y, h1, h2, h3⟩
  ·exact .inl ⟨(if_neg hl).trans h1, by rw [has_put_other hne]; exact h2⟩
  ·exact .inr ⟨y, (if_neg hl).trans h1, by rw [has_put_other hne]; exact h2, fun z => by rw [atKey_put_other hne]; exact h3 z⟩
theorem MapIs.drop (hc : ∀ x y, c x = c y → x = y) (h : MapIs c P k w b s f) (K : Keyed P k) (ht : P.underlying t = some (.map k e)) {x : κ} {kl : Lit} (hkey : keyOf P k (c x) = some kl) (ty : TypeId) :
  ∃ w', (Builtin.delete_ #[t, k] ty #[.map (some b), c x]).run P w = .ok (.tuple #[]) w' ∧ MapIs c P k w' b (if (f x).isSome then s - 1 else s) (fun l => if l = x then none else f l) ∧ w.mapTurned w' b := by
 obtain ⟨D, ho, hs, hf⟩ := h
 have hT := ho.tidy K
 obtain ⟨w', hrun, ho', hm⟩ := ho.drop K ht hkey ty
 have hsz : Maps.size (D.del kl) = (if (f x).isSome then s - 1 else s) := by
  have h0 := size_del (k := kl) hT
  rcases hf x kl hkey with ⟨h1, h2⟩ | ⟨y, h1, h2, h3⟩
  ·rw [h1]; rw [h2, hs] at h0; simpa using h0
  ·rw [h1]; rw [h2, hs] at h0; simp at h0; simp; omega
 refine ⟨w', hrun, ⟨D.del kl, hsz ▸ owns_exact ho', hsz, fun l m hm' => ?_⟩, hm⟩
 by_cases hl : l = x
 ·subst hl
  obtain rfl : kl = m := Option.some.inj (hkey.symm.trans hm')
  exact .inl ⟨if_pos rfl, has_del_same⟩
 ·have hne : m ≠ kl := fun e => hl (hc _ _ (K.inj hm' (e ▸ hkey)))
  rcases hf l m hm' with ⟨h1, h2⟩ | ⟨y, h1, h2, h3⟩
  ·exact .inl ⟨(if_neg hl).trans h1, by rw [has_del_other hne]; exact h2⟩
  ·exact .inr ⟨y, (if_neg hl).trans h1, by rw [has_del_other hne]; exact h2, fun z => by rw [atKey_del_other hne]; exact h3 z⟩
end
end Go.Proofs.Ythniclbmpeklmaa.Mp
end
section
namespace Go.Proofs.Ythniclbmpeklmaa.Mp
open Go.RowKit Go.Maps
set_option linter.unusedSectionVars false
section
variable {κ : Type} [DecidableEq κ] {c : κ → Value} {P : Program} {k t e : TypeId} {w : World} {b s : Nat} {f : κ → Option Value}
variable {ops : Array Oper} {rest : List Oper} {o : Oper} {a : Act} {Q : Exit → Act → World → Prop}
theorem wpl_store (hc : ∀ x y, c x = c y → x = y) (hg : o.guard = none) (m x v : Operand) (t : TypeId) (hop : o.op = Op.mapUpdate t m x v) (h : MapIs c P k w b s f) (K : Keyed P k) (ht : P.underlying t = some (.map k e)) (hn : s < maxLen) {y : κ} {kl : Lit} (hkey : keyOf P k (c y) = some kl) {val : Value}
  (hm : a.eval m = .map (some b)) (hx : a.eval x = c y) (hv : a.eval v = val) (hK : ∀ w', MapIs c P k w' b (if (f y).isSome then s else s + 1) (fun l => if l = y then some val else f l) → w.grownBy w' (some b) → wpList P ops Q rest (a.put o.dst undef) w') : wpList P ops Q (o :: rest) a w := by
 refine wpList_plain hg fun K' hK' => ?_
 obtain ⟨w', hrun, h1, h2⟩ := h.store hc K ht hn hkey val
 unfold Oper.wp
 simp [execOp, hop, hm, hx, hv, hrun, Result.andThen]
 exact hK' _ _ (hK w' h1 h2.grown)
theorem wpl_drop (hc : ∀ x y, c x = c y → x = y) (hg : o.guard = none) (m x : Operand) (t : TypeId) (hop : o.op = Op.call { callee := Callee.builtin Builtin.delete, args := #[m, x], argTypes := #[t, k] }) (h : MapIs c P k w b s f) (K : Keyed P k) (ht : P.underlying t = some (.map k e)) {y : κ} {kl : Lit} (hkey : keyOf P k (c y) = some kl)
  (hm : a.eval m = .map (some b)) (hx : a.eval x = c y) (hK : ∀ w', MapIs c P k w' b (if (f y).isSome then s - 1 else s) (fun l => if l = y then none else f l) → w.grownBy w' (some b) → wpList P ops Q rest (a.put o.dst (.tuple #[])) w') : wpList P ops Q (o :: rest) a w := by
 refine wpList_plain hg fun K' hK' => ?_
 obtain ⟨w', hrun, h1, h2⟩ := h.drop hc K ht hkey o.type
 unfold Oper.wp
 simp [execOp, hop, resolve, invoke, builtin, hm, hx, hrun, Result.andThen]
 exact hK' _ _ (hK w' h1 h2.grown)
end
end Go.Proofs.Ythniclbmpeklmaa.Mp
end
section
namespace Go.Proofs.Ythniclbmpeklmaa.Mp
open Go.RowKit Go.Maps
open Go.WideMaps (KeyLaw)
open Go.ChangeMaps Go.WideElems Go.MapKept
section
variable {κ : Type} [DecidableEq κ] {c : κ → Value} {P : Program} {k t e : TypeId} {w : World} {b s : Nat} {f : κ → Option Value}
theorem MapIs.block {κ : Type} {c : κ → Value} {P : Program} {k : TypeId} {w : World} {b s : Nat} {f : κ → Option Value} (h : MapIs c P k w b s f) : ∃ es clock, w.heap[b]? = some (.map es clock) := by
 obtain ⟨D, ⟨es, cl, hb, _⟩, _⟩ := h
 exact ⟨es, cl, hb⟩
end
end Go.Proofs.Ythniclbmpeklmaa.Mp
end
section
namespace Go.Proofs.Ythniclbmpeklmaa.Au
set_option linter.unusedVariables false
structure Ev where
 k : Int
 wk : Int
 op : Int
 hn : Int
 hg : Int
 nn : Int
 ng : Int
 t : Int
 a : Int
 u : Int
 y : Bool
 er : Int
abbrev Ha := Int × Int
abbrev Ev.h (e : Ev) : Ha := (e.hn, e.hg)
abbrev Ev.new (e : Ev) : Ha := (e.nn, e.ng)
structure Life where
 hn : Int
 hg : Int
 made : Int
 wk : Int
 til : Int
 dl : Int
structure Cl where
 e : Ev
 beg : Int
 clk : Int
 en : Int
structure Story where
 l : List Ev
 lives : List Life
 at_ : Ha → Option Nat
 calls : List Cl
 opn : Int → Option Nat
end Go.Proofs.Ythniclbmpeklmaa.Au
end
section
namespace Go.Proofs.Ythniclbmpeklmaa.Au
set_option linter.unusedVariables false
theorem get_mem {α : Type} {l : List α} {x : α} {j : Nat} (h : l[j]? = some x) : x ∈ l := by
 obtain ⟨hj, rfl⟩ := List.getElem?_eq_some_iff.1 h
 exact List.getElem_mem hj
end Go.Proofs.Ythniclbmpeklmaa.Au
end
section
namespace Go.Proofs.Ythniclbmpeklmaa.Au
open Go.RowKit Go.Maps Go.Proofs.YthniclbmpeklmaaW.PrintWords Go.Proofs.YthniclbmpeklmaaW.PrintLast Go.Proofs.YthniclbmpeklmaaW.PrintMore Go.Proofs.Ythniclbmpeklmaa.Mp
set_option linter.unusedVariables false
set_option linter.unusedSimpArgs false
variable {α : Type}
abbrev evA (e : Ev) : Array Value := #[.int .i64 e.k, .int .i64 e.wk, .int .i64 e.op, .int .i64 e.hn, .int .i64 e.hg, .int .i64 e.nn, .int .i64 e.ng, .int .i64 e.t, .int .i64 e.a, .int .i64 e.u, .bool e.y, .int .i64 e.er]
abbrev haV (h : Ha) : Value := .agg #[.int .i64 h.1, .int .i64 h.2]
def RowIs (w : World) (B T k : Nat) (A : α → Array Value) (v : Value) (l : List α) : Prop := w.ownsRow B T k v l.length (l.flatMap fun x => (A x).toList)
theorem flat_get {A : α → Array Value} {k : Nat} (hA : ∀ x, (A x).size = k) : ∀ (l : List α) (i j : Nat) (x : α), l[i]? = some x → j < k → (l.flatMap fun x => (A x).toList)[i * k + j]? = (A x)[j]?
 | [], i, j, x, h, hj => by simp at h
 | y :: l, 0, j, x, h, hj => by
  obtain rfl : y = x := by simpa using h
  rw [List.flatMap_cons, List.getElem?_append_left (by simp [hA]; omega)]
  simp
 | y :: l, i + 1, j, x, h, hj => by
  rw [List.flatMap_cons, List.getElem?_append_right (by simp only [Array.length_toList, hA]; rw [Nat.succ_mul]; omega)]
  rw [Array.length_toList, hA, show (i + 1) * k + j - k = i * k + j by rw [Nat.succ_mul]; omega]
  exact flat_get hA l i j x (by simpa using h) hj
theorem flat_len {A : α → Array Value} {k : Nat} (hA : ∀ x, (A x).size = k) (l : List α) : (l.flatMap fun x => (A x).toList).length = l.length * k := by
 induction l with
 | nil => simp
 | cons y l ih => rw [List.flatMap_cons, List.length_append, ih, Array.length_toList, hA, List.length_cons, Nat.succ_mul]; omega
section
variable {w w1 : World} {B T k : Nat} {A : α → Array Value} {v : Value} {l : List α}
theorem RowIs.at_ (h : RowIs w B T k A v l) (hA : ∀ x, (A x).size = k) {i : Nat} {x : α} (hx : l[i]? = some x) : ∃ g cap, v = .slice (some ⟨g, 0, none⟩) l.length cap ∧ l.length ≤ cap ∧ g < w.heap.size ∧ ∀ j, j < k → w.cell? ⟨g, i * k + j, none⟩ = (A x)[j]? := by
 have hi : i < l.length := (List.getElem?_eq_some_iff.1 hx).1
 rcases h.2 with ⟨rfl, hn⟩ | ⟨g, cap, cur, rfl, _, hg, hnc, _, hcs, htake⟩
 ·omega
 ·refine ⟨g, cap, rfl, hnc, blk_lt hg, fun j hj => ?_⟩
  have hlt : i * k + j < l.length * k := by
   have : (i + 1) * k ≤ l.length * k := Nat.mul_le_mul_right _ hi
   rw [Nat.succ_mul] at this
   omega
  rw [blk_cell hg, ← flat_get hA l i j x hx hj, ← htake, List.getElem?_take_of_lt hlt]
  simp
end
theorem lawI : Keyed Try.prog 3 := int_keyed Try.underlying3
theorem laidOut_ : laidOutB Try.prog = true := by kernel_rfl
theorem lawH : Keyed Try.prog 34 := Keyed.of_law (deep_law_laid laidOut_ (m := 3) (by decide) (of_decide_eq_true (by kernel_rfl)) (by kernel_rfl) (by kernel_rfl))
theorem ha_inj (x y : Ha) (h : haV x = haV y) : x = y := by
 injection h with h
 have h1 := congrArg (fun a => a[0]?) h
 have h2 := congrArg (fun a => a[1]?) h
 simp at h1 h2
 exact Prod.ext h1 h2
theorem int_inj' (x y : Int) (h : Value.int .i64 x = Value.int .i64 y) : x = y := by injection h
theorem zeroI (w : World) : (zeroValue 3).run Try.prog w = .ok (.int .i64 0) w := by kernel_rfl
section
variable {w w1 : World} {B b n m1 m2 : Nat} {s : Story} {vl vv vc : Value}
theorem types_ne {w : World} {g g' : Nat} {c c' : Array Value} {t t' : TypeId} (h : w.heap[g]? = some (.cells c t (0, 0))) (h' : w.heap[g']? = some (.cells c' t' (0, 0))) (e : t ≠ t') : g ≠ g' := by
 rintro rfl
 rw [h] at h'
 injection h' with h'
 injection h' with _ h'
 exact e h'
theorem map_ne {w : World} {g g' : Nat} {c : Array Value} {t : TypeId} {es : Array MapEntry} {cl : Nat} (h : w.heap[g]? = some (.cells c t (0, 0))) (h' : w.heap[g']? = some (.map es cl)) : g ≠ g' := by
 rintro rfl
 rw [h] at h'
 injection h' with h'
 cases h'
end
structure Fr (w w' : World) (S : Nat → Prop) : Prop where
 os : w'.os = w.os
 tape : w'.tape = w.tape
 output : w'.output = w.output
 size : w.heap.size ≤ w'.heap.size
 block : ∀ g, g < w.heap.size → ¬ S g → w'.heap[g]? = w.heap[g]?
section
variable {w w1 w2 : World} {S S' : Nat → Prop}
theorem Fr.refl (w : World) (S : Nat → Prop) : Fr w w S := ⟨rfl, rfl, rfl, Nat.le_refl _, fun _ _ _ => rfl⟩
theorem Fr.trans (h : Fr w w1 S) (h' : Fr w1 w2 S) : Fr w w2 S := ⟨h'.os.trans h.os, h'.tape.trans h.tape, h'.output.trans h.output, Nat.le_trans h.size h'.size, fun g hg hs => (h'.block g (Nat.lt_of_lt_of_le hg h.size) hs).trans (h.block g hg hs)⟩
theorem Fr.mono (h : Fr w w1 S) (hs : ∀ g, S g → S' g) : Fr w w1 S' := ⟨h.os, h.tape, h.output, h.size, fun g hg hn => h.block g hg (fun q => hn (hs g q))⟩
theorem Fr.of_below (h : Below w.heap.size w w1) (S : Nat → Prop) : Fr w w1 S := ⟨h.os, h.tape, h.output, h.size, fun g hg _ => h.block g hg⟩
theorem Fr.of_grown {row : Option Nat} (h : w.grownBy w1 row) : Fr w w1 (fun g => some g = row) := ⟨h.os, h.tape, h.output, h.size, fun g hg hn => h.block g hg hn⟩
theorem Fr.alloc (h : Fr w w1 S) (o : Obj) : Fr w (w1.alloc o) S := h.trans (Fr.of_below (below_alloc (Below.refl _ _) o) S)
theorem Fr.drew (h : Fr w w1 S) : Fr w w1.drew S := ⟨h.os, h.tape, h.output, h.size, h.block⟩
theorem Fr.drewN (h : Fr w w1 S) (n : Nat) : Fr w (w1.drewN n) S := ⟨h.os, h.tape, h.output, h.size, h.block⟩
theorem Fr.set (h : Fr w w1 S) (p : Addr) (u : Value) (hp : w.heap.size ≤ p.block ∨ S p.block) : Fr w (w1.setCell p u) S :=
 ⟨h.os, h.tape, h.output, by simpa using h.size, fun g hg hn => (Below.heap_setCell w1 p u g (fun e => by subst e; rcases hp with q | q; omega; exact hn q)).trans (h.block g hg hn)⟩
theorem Fr.below {B : Nat} (h : Fr w w1 S) (hB : B ≤ w.heap.size) (hs : ∀ g, S g → B ≤ g) : Below B w w1 := ⟨h.os, h.tape, h.output, h.size, fun g hg => h.block g (by omega) (fun q => by have := hs g q; omega)⟩
theorem Fr.blk {g : Nat} {o : Obj} (h : Fr w w1 S) (hb : w.heap[g]? = some o) (hn : ¬ S g) : w1.heap[g]? = some o := (h.block g (blk_lt hb) hn).trans hb
end
end Go.Proofs.Ythniclbmpeklmaa.Au
end
section
namespace Go.Proofs.Ythniclbmpeklmaa.Au
open Go.RowKit Go.Maps Go.Proofs.YthniclbmpeklmaaW.PrintWords Go.Proofs.YthniclbmpeklmaaW.PrintLast Go.Proofs.YthniclbmpeklmaaW.PrintMore Go.Proofs.Ythniclbmpeklmaa.Mp
set_option linter.unusedVariables false
set_option linter.unusedSimpArgs false
theorem litsH (d : Nat) (x y : Int) (hx : (Lit.int .i64 x).wf = true) (hy : (Lit.int .i64 y).wf = true) : Try.prog.keyLits (d + 2) 34 [.int .i64 x, .int .i64 y] = some [.int .i64 x, .int .i64 y] := by
 have h34 := Try.underlying34
 have h3 := Try.underlying3
 have c34 : Try.prog.cellsOf 34 = 2 := by kernel_rfl
 have c3 : Try.prog.cellsOf 3 = 1 := by kernel_rfl
 simp [Program.keyLits, h34, h3, c34, c3, hx, hy]
theorem keyH (x y : Int) (hx : (Lit.int .i64 x).wf = true) (hy : (Lit.int .i64 y).wf = true) : ∃ kl, keyOf Try.prog 34 (haV (x, y)) = some kl := by
 have h34 := Try.underlying34
 have c34 : Try.prog.cellsOf 34 = 2 := by kernel_rfl
 have hk : Try.prog.keyType 34 = true := by kernel_rfl
 have hs : Try.prog.types.size = (Try.prog.types.size - 1) + 1 := by kernel_rfl
 have hf : (haV (x, y)).formed Try.prog 34 = true := by simp [Value.formed, h34, c34]
 refine ⟨.string (keyBytes [.int .i64 x, .int .i64 y]), ?_⟩
 unfold keyOf
 rw [h34]
 simp only [hk, hf, Bool.and_self, if_true]
 rw [show (haV (x, y)).cells.toList = [.int .i64 x, .int .i64 y] from rfl, hs, litsH _ x y hx hy]
 rfl
section
variable {α : Type} {W : World} {B T k : Nat} {A : α → Array Value} {v : Value} {l : List α} {o : Oper} {a : Act} {K : Act → World → Prop} {Q : Exit → Act → World → Prop} {ops : Array Oper} {rest : List Oper}
theorem if_wp {P : Program} {E : Prop} (hgd : o.guard = none) (h : o.wp P a W K Q) : if Region.wanted o (yielded ops a.tmps) = true then Oper.wp P o a W K Q else E := by
 rw [if_pos (by simp [Region.wanted, hgd])]
 exact h
end
section
variable {w W W1 : World} {B b n m1 m2 : Nat} {s : Story} {vl vv vc : Value}
end
end Go.Proofs.Ythniclbmpeklmaa.Au
end
section
namespace Go.Proofs.Ythniclbmpeklmaa.Ev
open Go.RowKit Go.Proofs.YthniclbmpeklmaaW.PrintWords Go.Proofs.YthniclbmpeklmaaW.PrintLast Go.Proofs.YthniclbmpeklmaaW.PrintMore
set_option linter.unusedVariables false
set_option linter.unusedSimpArgs false
abbrev evC (k wk op hn hg nn ng t a u : Int) (y : Bool) (er : Int) : Array Value := #[.int .i64 k, .int .i64 wk, .int .i64 op, .int .i64 hn, .int .i64 hg, .int .i64 nn, .int .i64 ng, .int .i64 t, .int .i64 a, .int .i64 u, .bool y, .int .i64 er]
theorem in_any (n x y z : Int) (b : Nat) (w : World) (h0 : w.cell? ⟨b, 0, none⟩ = some (.int .i64 x)) (h1 : w.cell? ⟨b, 1, none⟩ = some (.int .i64 y)) (h2 : w.cell? ⟨b, 2, none⟩ = some (.int .i64 z)) :
  Calls Try.prog 105 #[.int .i64 n, .slice (some ⟨b, 0, none⟩) 3 3] w fun e w' => e = .returned (.bool (x == n || (y == n || z == n))) ∧ w' = w := by
 cases cx : (x == n)
 ·cases cy : (y == n)
  ·cases cz : (z == n)
   ·go_enter Try.func105, Try.ntmps105
    go_wp2
    go_loop [5] (fun v => v = .int .i64 0 ∨ v = .int .i64 1 ∨ v = .int .i64 2 ∨ v = .int .i64 3) (fun v => 3 - (intOf v).toNat)
    case atStart => exact .inl rfl
    case round =>
     rcases hrel with rfl | rfl | rfl | rfl
     ·go_wp2
      go_round
      case rel => exact .inr (.inl rfl)
      case measure => simp [intOf]
     ·go_wp2
      go_round
      case rel => exact .inr (.inr (.inl rfl))
      case measure => simp [intOf]
     ·go_wp2
      go_round
      case rel => exact .inr (.inr (.inr (rfl)))
      case measure => simp [intOf]
     ·go_wp2
      go_ret
      exact ⟨by simp [*], rfl⟩
   ·go_enter Try.func105, Try.ntmps105
    go_wp2
    go_loop [5] (fun v => v = .int .i64 0 ∨ v = .int .i64 1 ∨ v = .int .i64 2) (fun v => 3 - (intOf v).toNat)
    case atStart => exact .inl rfl
    case round =>
     rcases hrel with rfl | rfl | rfl
     ·go_wp2
      go_round
      case rel => exact .inr (.inl rfl)
      case measure => simp [intOf]
     ·go_wp2
      go_round
      case rel => exact .inr (.inr (rfl))
      case measure => simp [intOf]
     ·go_wp2
      go_ret
      exact ⟨by simp [*], rfl⟩
  ·go_enter Try.func105, Try.ntmps105
   go_wp2
   go_loop [5] (fun v => v = .int .i64 0 ∨ v = .int .i64 1) (fun v => 3 - (intOf v).toNat)
   case atStart => exact .inl rfl
   case round =>
    rcases hrel with rfl | rfl
    ·go_wp2
     go_round
     case rel => exact .inr (rfl)
     case measure => simp [intOf]
    ·go_wp2
     go_ret
     exact ⟨by simp [*], rfl⟩
 ·go_enter Try.func105, Try.ntmps105
  go_wp2
  go_loop [5] (fun v => v = .int .i64 0) (fun v => 3 - (intOf v).toNat)
  case atStart => exact rfl
  case round =>
   obtain rfl := hrel
   ·go_wp2
    go_ret
    exact ⟨by simp [*], rfl⟩
end Go.Proofs.Ythniclbmpeklmaa.Ev
end
section
set_option maxHeartbeats 4000000
set_option maxRecDepth 100000
namespace Go.Proofs.Ythniclbmpeklmaa.Ev
open Go.RowKit Go.Proofs.YthniclbmpeklmaaW.PrintWords Go.Proofs.YthniclbmpeklmaaW.PrintLast Go.Proofs.YthniclbmpeklmaaW.PrintMore
set_option linter.unusedVariables false
set_option linter.unusedSimpArgs false
def in3 (x y z n : Int) : Bool := x == n || (y == n || z == n)
def made (op : Int) : Bool := op == 1 || op == 3
def hasN (k op er : Int) : Bool := (k == 3 || k == 5) && made op && er == 0
def hasT (k op er : Int) : Bool := k == 1 || k == 4 || k == 2 && made op || k == 3 && made op && er == 0 || k == 5 && (op == 6 || op == 7)
def hasA (k op : Int) : Bool := k == 2 && (op == 1 || op == 4)
def hasU (k op : Int) : Bool := k == 4 || k == 2 && op == 1
def hasY (k op : Int) : Bool := (k == 3 || k == 5) && op == 2
def hasE (k op : Int) : Bool := (k == 3 || k == 5) && in3 1 3 4 op
def hasH (k op : Int) : Bool := k == 4 || ((k == 2 && in3 2 3 4 op) || (k == 3 && in3 2 3 4 op))
theorem in_3 (n x y z : Int) (b : Nat) (w : World) (h0 : w.cell? ⟨b, 0, none⟩ = some (.int .i64 x)) (h1 : w.cell? ⟨b, 1, none⟩ = some (.int .i64 y)) (h2 : w.cell? ⟨b, 2, none⟩ = some (.int .i64 z)) :
  Calls Try.prog 105 #[.int .i64 n, .slice (some ⟨b, 0, none⟩) 3 3] w fun e w' => e = .returned (.bool (in3 x y z n)) ∧ w' = w := in_any n x y z b w h0 h1 h2
theorem has_h (k wk op hn hg nn ng t a u : Int) (y : Bool) (er : Int) (w : World) :
  Calls Try.prog 91 #[.agg (evC k wk op hn hg nn ng t a u y er), .int .u8 104] w fun e w' => e = .returned (.bool (hasH k op)) ∧ Below w.heap.size w w' := by
 have hu := Try.underlying50
 have HB := Aside0.mk (Below.refl w.heap.size w)
 go_enter Try.func91, Try.ntmps91
 go_wp2
 go_quiet (fail)
 go_wp2_with (first | (go_at_call 105; (with_reducible refine (in_3 _ 2 3 4 _ _ ?c0 ?c1 ?c2).mono ?_); (case c0 => go_simp); (case c1 => go_simp); (case c2 => go_simp); rintro e w1 ⟨rfl, rfl⟩))
 all_goals
  go_ret
  exact ⟨by first | (simp [hasH, made, *]; done) | (simp_all [hasH, made, in3]; done) | (simp [hasH, made, *]; rw [Bool.eq_iff_iff]; simp [*]; done), by repeat (first | exact HB.out | apply below_alloc | apply pw_below_drewN)⟩
theorem has_n (k wk op hn hg nn ng t a u : Int) (y : Bool) (er : Int) (w : World) :
  Calls Try.prog 91 #[.agg (evC k wk op hn hg nn ng t a u y er), .int .u8 110] w fun e w' => e = .returned (.bool (hasN k op er)) ∧ Below w.heap.size w w' := by
 have hu := Try.underlying50
 have HB := Aside0.mk (Below.refl w.heap.size w)
 go_enter Try.func91, Try.ntmps91
 go_wp2
 go_quiet (fail)
 go_wp2_with (first | (go_at_call 105; (with_reducible refine (in_3 _ 1 3 4 _ _ ?c0 ?c1 ?c2).mono ?_); (case c0 => go_simp); (case c1 => go_simp); (case c2 => go_simp); rintro e w1 ⟨rfl, rfl⟩))
 all_goals
  go_ret
  exact ⟨by first | (simp [hasN, made, *]; done) | (simp_all [hasN, made, in3]; done) | (simp [hasN, made, *]; rw [Bool.eq_iff_iff]; simp [*]; done), by repeat (first | exact HB.out | apply below_alloc | apply pw_below_drewN)⟩
theorem has_t (k wk op hn hg nn ng t a u : Int) (y : Bool) (er : Int) (w : World) :
  Calls Try.prog 91 #[.agg (evC k wk op hn hg nn ng t a u y er), .int .u8 116] w fun e w' => e = .returned (.bool (hasT k op er)) ∧ Below w.heap.size w w' := by
 have hu := Try.underlying50
 have HB := Aside0.mk (Below.refl w.heap.size w)
 go_enter Try.func91, Try.ntmps91
 go_wp2
 go_quiet (fail)
 go_wp2_with (first | (go_at_call 105; (with_reducible refine (in_3 _ 1 3 4 _ _ ?c0 ?c1 ?c2).mono ?_); (case c0 => go_simp); (case c1 => go_simp); (case c2 => go_simp); rintro e w1 ⟨rfl, rfl⟩))
 all_goals
  go_ret
  exact ⟨by first | (simp [hasT, made, *]; done) | (simp_all [hasT, made, in3]; done) | (simp [hasT, made, *]; rw [Bool.eq_iff_iff]; simp [*]; done), by repeat (first | exact HB.out | apply below_alloc | apply pw_below_drewN)⟩
theorem has_a (k wk op hn hg nn ng t a u : Int) (y : Bool) (er : Int) (w : World) :
  Calls Try.prog 91 #[.agg (evC k wk op hn hg nn ng t a u y er), .int .u8 97] w fun e w' => e = .returned (.bool (hasA k op)) ∧ Below w.heap.size w w' := by
 have hu := Try.underlying50
 have HB := Aside0.mk (Below.refl w.heap.size w)
 go_enter Try.func91, Try.ntmps91
 go_wp2
 go_quiet (fail)
 go_wp2_with (first | (go_at_call 105; (with_reducible refine (in_3 _ 1 3 4 _ _ ?c0 ?c1 ?c2).mono ?_); (case c0 => go_simp); (case c1 => go_simp); (case c2 => go_simp); rintro e w1 ⟨rfl, rfl⟩))
 all_goals
  go_ret
  exact ⟨by first | (simp [hasA, made, *]; done) | (simp_all [hasA, made, in3]; done) | (simp [hasA, made, *]; rw [Bool.eq_iff_iff]; simp [*]; done), by repeat (first | exact HB.out | apply below_alloc | apply pw_below_drewN)⟩
theorem has_u (k wk op hn hg nn ng t a u : Int) (y : Bool) (er : Int) (w : World) :
  Calls Try.prog 91 #[.agg (evC k wk op hn hg nn ng t a u y er), .int .u8 117] w fun e w' => e = .returned (.bool (hasU k op)) ∧ Below w.heap.size w w' := by
 have hu := Try.underlying50
 have HB := Aside0.mk (Below.refl w.heap.size w)
 go_enter Try.func91, Try.ntmps91
 go_wp2
 go_quiet (fail)
 go_wp2_with (first | (go_at_call 105; (with_reducible refine (in_3 _ 1 3 4 _ _ ?c0 ?c1 ?c2).mono ?_); (case c0 => go_simp); (case c1 => go_simp); (case c2 => go_simp); rintro e w1 ⟨rfl, rfl⟩))
 all_goals
  go_ret
  exact ⟨by first | (simp [hasU, made, *]; done) | (simp_all [hasU, made, in3]; done) | (simp [hasU, made, *]; rw [Bool.eq_iff_iff]; simp [*]; done), by repeat (first | exact HB.out | apply below_alloc | apply pw_below_drewN)⟩
theorem has_y (k wk op hn hg nn ng t a u : Int) (y : Bool) (er : Int) (w : World) :
  Calls Try.prog 91 #[.agg (evC k wk op hn hg nn ng t a u y er), .int .u8 121] w fun e w' => e = .returned (.bool (hasY k op)) ∧ Below w.heap.size w w' := by
 have hu := Try.underlying50
 have HB := Aside0.mk (Below.refl w.heap.size w)
 go_enter Try.func91, Try.ntmps91
 go_wp2
 go_quiet (fail)
 go_wp2_with (first | (go_at_call 105; (with_reducible refine (in_3 _ 1 3 4 _ _ ?c0 ?c1 ?c2).mono ?_); (case c0 => go_simp); (case c1 => go_simp); (case c2 => go_simp); rintro e w1 ⟨rfl, rfl⟩))
 all_goals
  go_ret
  exact ⟨by first | (simp [hasY, made, *]; done) | (simp_all [hasY, made, in3]; done) | (simp [hasY, made, *]; rw [Bool.eq_iff_iff]; simp [*]; done), by repeat (first | exact HB.out | apply below_alloc | apply pw_below_drewN)⟩
theorem has_e (k wk op hn hg nn ng t a u : Int) (y : Bool) (er : Int) (w : World) :
  Calls Try.prog 91 #[.agg (evC k wk op hn hg nn ng t a u y er), .int .u8 101] w fun e w' => e = .returned (.bool (hasE k op)) ∧ Below w.heap.size w w' := by
 have hu := Try.underlying50
 have HB := Aside0.mk (Below.refl w.heap.size w)
 go_enter Try.func91, Try.ntmps91
 go_wp2
 go_quiet (fail)
 go_wp2_with (first | (go_at_call 105; (with_reducible refine (in_3 _ 1 3 4 _ _ ?c0 ?c1 ?c2).mono ?_); (case c0 => go_simp); (case c1 => go_simp); (case c2 => go_simp); rintro e w1 ⟨rfl, rfl⟩))
 all_goals
  go_ret
  exact ⟨by first | (simp [hasE, made, *]; done) | (simp_all [hasE, made, in3]; done) | (simp [hasE, made, *]; rw [Bool.eq_iff_iff]; simp [*]; done), by repeat (first | exact HB.out | apply below_alloc | apply pw_below_drewN)⟩
end Go.Proofs.Ythniclbmpeklmaa.Ev
end
section
namespace Go.Proofs.Ythniclbmpeklmaa.Ev
open Go.RowKit Go.Proofs.YthniclbmpeklmaaW.PrintWords Go.Proofs.YthniclbmpeklmaaW.PrintLast Go.Proofs.YthniclbmpeklmaaW.PrintMore
set_option linter.unusedVariables false
set_option linter.unusedSimpArgs false
structure Two (w W : World) (o1 o2 : Obj) : Prop where
 below : Below w.heap.size w W
 one : W.heap[w.heap.size]? = some o1
 two : W.heap[w.heap.size + 1]? = some o2
theorem Two.start (w : World) (o1 o2 : Obj) : Two w ((w.alloc o1).alloc o2) o1 o2 :=
 ⟨below_alloc (below_alloc (Below.refl _ _) _) _, by rw [Below.heap_alloc _ _ _ (by simp)]; exact heap_alloc_new w o1, by have := heap_alloc_new (w.alloc o1) o2; simpa using this⟩
theorem Two.size {w W : World} {o1 o2 : Obj} (h : Two w W o1 o2) : w.heap.size + 1 < W.heap.size := (Array.getElem?_eq_some_iff.1 h.two).1
theorem Two.step {w W W1 : World} {o1 o2 : Obj} (h : Two w W o1 o2) (hb : Below W.heap.size W W1) : Two w W1 o1 o2 :=
 ⟨below_step h.below hb, (hb.block _ (by have := h.size; omega)).trans h.one, (hb.block _ h.size).trans h.two⟩
theorem Two.cell {w W : World} {cs : Array Value} {t : TypeId} {o2 : Obj} (h : Two w W (.cells cs t (0, 0)) o2) (i : Nat) : W.cell? ⟨w.heap.size, i, none⟩ = cs[i]? := blk_cell h.one i
theorem Two.cell2 {w W : World} {cs : Array Value} {t : TypeId} {o1 : Obj} (h : Two w W o1 (.cells cs t (0, 0))) (i : Nat) : W.cell? ⟨w.heap.size + 1, i, none⟩ = cs[i]? := blk_cell h.two i
def emptyB (k op hn hg nn ng t a u : Int) (y : Bool) (er : Int) : Bool :=
 !(!hasH k op && !(hn == 0 && hg == 0) || !hasN k op er && !(nn == 0 && ng == 0) || !hasT k op er && t != 0 || !hasA k op && a != 0) && ((hasU k op || u == 0) && (hasY k op || !y) && (hasE k op || er == 0))
theorem gate_load {P : Program} {ops : Array Oper} {o : Oper} {rest : List Oper} {a : Act} {Q : Exit → Act → World → Prop} {W : World} {t : TypeId} {p : Tmp} (_ho : o.op = .load t (.tmp p)) (h : wpList P ops Q (o :: rest) a W) : wpList P ops Q (o :: rest) a W := h
set_option maxHeartbeats 4000000 in
set_option maxRecDepth 100000 in
theorem empty_any (k wk op hn hg nn ng t a u : Int) (y : Bool) (er : Int) (w : World) :
  Calls Try.prog 90 #[.agg (evC k wk op hn hg nn ng t a u y er)] w fun e w' => e = .returned (.bool (emptyB k op hn hg nn ng t a u y er)) ∧ Below w.heap.size w w' := by
 have hu := Try.underlying50
 have hu2 := Try.underlying36
 have CH := Aside0.mk (fun wk hn hg nn ng t a u y W => has_h k wk op hn hg nn ng t a u y er W)
 have CN := Aside0.mk (fun wk hn hg nn ng t a u y W => has_n k wk op hn hg nn ng t a u y er W)
 have CT := Aside0.mk (fun wk hn hg nn ng t a u y W => has_t k wk op hn hg nn ng t a u y er W)
 have CA := Aside0.mk (fun wk hn hg nn ng t a u y W => has_a k wk op hn hg nn ng t a u y er W)
 have CU := Aside0.mk (fun wk hn hg nn ng t a u y W => has_u k wk op hn hg nn ng t a u y er W)
 have CY := Aside0.mk (fun wk hn hg nn ng t a u y W => has_y k wk op hn hg nn ng t a u y er W)
 have CE := Aside0.mk (fun wk hn hg nn ng t a u y W => has_e k wk op hn hg nn ng t a u y er W)
 unfold emptyB
 obtain ⟨bu, eu⟩ : ∃ b, b = hasU k op := ⟨_, rfl⟩
 obtain ⟨bY, eY⟩ : ∃ b, b = hasY k op := ⟨_, rfl⟩
 obtain ⟨be, ee⟩ : ∃ b, b = hasE k op := ⟨_, rfl⟩
 obtain ⟨bh, eh⟩ : ∃ b, b = hasH k op := ⟨_, rfl⟩
 obtain ⟨bn, en⟩ : ∃ b, b = hasN k op er := ⟨_, rfl⟩
 obtain ⟨bt, et⟩ : ∃ b, b = hasT k op er := ⟨_, rfl⟩
 obtain ⟨ba, ea⟩ : ∃ b, b = hasA k op := ⟨_, rfl⟩
 rw [← eh] at CH ⊢
 rw [← en] at CN ⊢
 rw [← et] at CT ⊢
 rw [← ea] at CA ⊢
 rw [← eu] at CU ⊢
 rw [← eY] at CY ⊢
 rw [← ee] at CE ⊢
 clear eh en et ea eu eY ee
 obtain ⟨q0, hq0⟩ : ∃ q : Bool, q = (!bh && !(hn == 0 && hg == 0) || !bn && !(nn == 0 && ng == 0) || !bt && t != 0 || !ba && a != 0) := ⟨_, rfl⟩
 rw [← hq0]
 have HQ := Aside0.mk hq0
 clear hq0
 obtain ⟨ev, hev⟩ : ∃ ev : Array Value, ev = evC k wk op hn hg nn ng t a u y er := ⟨_, rfl⟩
 have c0 : ev[0]? = some (.int .i64 k) := by rw [hev]; rfl
 have c1 : ev[1]? = some (.int .i64 wk) := by rw [hev]; rfl
 have c2 : ev[2]? = some (.int .i64 op) := by rw [hev]; rfl
 have c3 : ev[3]? = some (.int .i64 hn) := by rw [hev]; rfl
 have c4 : ev[4]? = some (.int .i64 hg) := by rw [hev]; rfl
 have c5 : ev[5]? = some (.int .i64 nn) := by rw [hev]; rfl
 have c6 : ev[6]? = some (.int .i64 ng) := by rw [hev]; rfl
 have c7 : ev[7]? = some (.int .i64 t) := by rw [hev]; rfl
 have c8 : ev[8]? = some (.int .i64 a) := by rw [hev]; rfl
 have c9 : ev[9]? = some (.int .i64 u) := by rw [hev]; rfl
 have c10 : ev[10]? = some (.bool y) := by rw [hev]; rfl
 have c11 : ev[11]? = some (.int .i64 er) := by rw [hev]; rfl
 have hsz : ev.size = 12 := by rw [hev]; rfl
 have HI := Aside0.mk (show (Try.prog.info? 50).map (·.size) = some ev.size by rw [hsz]; kernel_rfl)
 rw [← hev]
 clear hev
 go_enter Try.func90, Try.ntmps90
 go_upto_region 2 with (fail)
 clear hsz
 go_cut [44] (fun v wc => v = .bool q0 ∧ Aside0 (Two w wc (.cells ev 50) (.cells #[.int .i64 0, .int .i64 0] 36)))
 case first =>
  have HT := Aside0.mk (Two.start w (.cells ev 50) (.cells #[.int .i64 0, .int .i64 0] 36))
  go_wp2_with (first | (go_at_call 91; (first | (with_reducible refine (CH.out _ _ _ _ _ _ _ _ _ _).mono ?_) | (with_reducible refine (CN.out _ _ _ _ _ _ _ _ _ _).mono ?_) | (with_reducible refine (CT.out _ _ _ _ _ _ _ _ _ _).mono ?_) | (with_reducible refine (CA.out _ _ _ _ _ _ _ _ _ _).mono ?_)); rintro e w1 ⟨rfl, hb⟩; have T1 := Aside0.mk (Two.step HT.out hb); clear HT hb; (try clear hc hc2); have HT := T1; clear T1; have hc := fun i => HT.out.cell i; have hc2 := fun i => HT.out.cell2 i))
  all_goals
   go_meet
   case rel => exact ⟨by rw [HQ.out]; first | (simp [*]; done) | (simp_all; done), HT⟩
 case rest =>
  obtain ⟨rfl, HT⟩ := hcut
  clear CH CN CT CA HQ
  cases q0 with
  | true =>
   clear CU CY CE
   go_wp2
   go_ret
   exact ⟨rfl, HT.out.below⟩
  | false =>
   have hc := fun i => HT.out.cell i
   go_wp2_with (go_at_call 91; (first | (with_reducible refine (CU.out _ _ _ _ _ _ _ _ _ _).mono ?_) | (with_reducible refine (CY.out _ _ _ _ _ _ _ _ _ _).mono ?_) | (with_reducible refine (CE.out _ _ _ _ _ _ _ _ _ _).mono ?_)); rintro e w1 ⟨rfl, hb⟩; have T1 := Aside0.mk (Two.step HT.out hb); clear HT hb; (try clear hc); have HT := T1; clear T1; have hc := fun i => HT.out.cell i)
   all_goals
    go_ret
    exact ⟨by first | (simp [*]; done) | (simp_all; done), HT.out.below⟩
end Go.Proofs.Ythniclbmpeklmaa.Ev
end
section
namespace Go.Proofs.Ythniclbmpeklmaa.Ev
open Go.RowKit Go.Proofs.YthniclbmpeklmaaW.PrintWords Go.Proofs.YthniclbmpeklmaaW.PrintLast Go.Proofs.YthniclbmpeklmaaW.PrintMore
set_option linter.unusedVariables false
set_option linter.unusedSimpArgs false
def kindB (k wk op : Int) : Bool :=
 (k == 1 && (op == 0 && wk == 0)) || (k == 4 && op == 0) || ((k == 2 || k == 5) && (decide (1 ≤ op) && decide (op ≤ 7))) || (k == 3 && (decide (1 ≤ op) && decide (op ≤ 4)))
def evRight (k wk op hn hg nn ng t a u : Int) (y : Bool) (er : Int) : Bool :=
 kindB k wk op && emptyB k op hn hg nn ng t a u y er && decide (0 ≤ wk) && decide (0 ≤ er) &&
  (k == 2 || ((k == 3 || (decide (0 ≤ hn) && decide (0 ≤ hg))) && (decide (0 ≤ nn) && decide (0 ≤ ng) && decide (0 ≤ a) && decide (0 ≤ u) && (if k = 5 then decide (-1 ≤ t) else decide (0 ≤ t)))))
set_option maxHeartbeats 4000000 in
set_option maxRecDepth 100000 in
theorem kind_any (k wk op hn hg nn ng t a u : Int) (y : Bool) (er : Int) (w : World) :
  Calls Try.prog 89 #[.agg (evC k wk op hn hg nn ng t a u y er)] w fun e w' => e = .returned (.bool (kindB k wk op)) ∧ Below w.heap.size w w' := by
 have hu := Try.underlying50
 have HB := Aside0.mk (Below.refl w.heap.size w)
 go_enter Try.func89, Try.ntmps89
 go_wp2
 all_goals
  go_ret
  exact ⟨by first | (simp [kindB, *]; done) | (simp_all [kindB]; done) | (simp [kindB, *]; rw [Bool.eq_iff_iff]; simp [*]; done) | (simp [kindB, *]; omega), by repeat (first | exact HB.out | apply below_alloc | apply pw_below_drewN)⟩
set_option maxHeartbeats 4000000 in
set_option maxRecDepth 100000 in
theorem right_any (k wk op hn hg nn ng t a u : Int) (y : Bool) (er : Int) (w : World) :
  Calls Try.prog 62 #[.agg (evC k wk op hn hg nn ng t a u y er)] w fun e w' => e = .returned (.bool (evRight k wk op hn hg nn ng t a u y er)) ∧ Below w.heap.size w w' := by
 have hu := Try.underlying50
 have CK := Aside0.mk (fun W => kind_any k wk op hn hg nn ng t a u y er W)
 have CE := Aside0.mk (fun W => empty_any k wk op hn hg nn ng t a u y er W)
 unfold evRight
 obtain ⟨bk, ek⟩ : ∃ b, b = kindB k wk op := ⟨_, rfl⟩
 obtain ⟨be, ee⟩ : ∃ b, b = emptyB k op hn hg nn ng t a u y er := ⟨_, rfl⟩
 rw [← ek] at CK ⊢
 rw [← ee] at CE ⊢
 clear ek ee
 have HB := Aside0.mk (below_alloc (Below.refl w.heap.size w) (.cells (evC k wk op hn hg nn ng t a u y er) 50))
 have HO := Aside0.mk (heap_alloc_new w (.cells (evC k wk op hn hg nn ng t a u y er) 50))
 go_enter Try.func62, Try.ntmps62
 go_wp2_with (first | (go_at_call 89; (with_reducible refine (CK.out _).mono ?_); rintro e w1 ⟨rfl, hb⟩; have n0 := Aside0.mk (below_step HB.out hb); have n1 := Aside0.mk ((hb.block _ (by simp)).trans HO.out); clear HB HO hb; have HB := n0; have HO := n1; clear n0 n1; have hc := fun i => blk_cell HO.out i; have hz := Aside0.mk (blk_lt HO.out)) | (go_at_call 90; (with_reducible refine (CE.out _).mono ?_); rintro e w1 ⟨rfl, hb⟩; have n0 := Aside0.mk (below_step HB.out hb); have n1 := Aside0.mk ((hb.block _ hz.out).trans HO.out); clear hc; clear HB HO hb; have HB := n0; have HO := n1; clear n0 n1; have hc := fun i => blk_cell HO.out i))
 all_goals
  go_ret
  exact ⟨by first | (simp [*]; done) | (simp_all; done) | (simp [*]; omega) | (simp [*]; rw [Bool.eq_iff_iff]; simp [*]; omega), HB.out⟩
end Go.Proofs.Ythniclbmpeklmaa.Ev
end
section
namespace Go.Proofs.Ythniclbmpeklmaa.Ju
open Go.RowKit Go.Proofs.Ythniclbmpeklmaa.Au
set_option linter.unusedVariables false
def rightJ (e : Ev) : Bool := Ev.evRight e.k e.wk e.op e.hn e.hg e.nn e.ng e.t e.a e.u e.y e.er
structure Md where
 clk : Int
 fat : Ha → Option (Int × Int)
 lst : Int → Option Int
def md0 : Md := ⟨0, fun _ => none, fun _ => none⟩
def Md.st (m : Md) (h : Ha) : Int := ((m.fat h).getD (0, 0)).1
def Md.dl (m : Md) (h : Ha) : Int := ((m.fat h).getD (0, 0)).2
def updF (f : Ha → Option (Int × Int)) (x : Ha) (v : Int × Int) : Ha → Option (Int × Int) := fun l => if l = x then some v else f l
def updL (f : Int → Option Int) (x : Int) (v : Int) : Int → Option Int := fun l => if l = x then some v else f l
def Md.end_ (m : Md) (h : Ha) (s : Int) : Md := { m with fat := updF m.fat h (s, 0) }
def Md.arm (m : Md) (h : Ha) (d : Int) : Md := { m with fat := updF m.fat h (1, d), lst := updL m.lst h.1 h.2 }
def Md.startOk (m : Md) (h : Ha) : Bool := !(m.lst h.1).isSome || (m.st (h.1, (m.lst h.1).getD 0) != 1 && decide ((m.lst h.1).getD 0 < h.2))
def pointF (m : Md) (e : Ev) : Md × Int :=
 if e.op = 2 ∧ e.y = true then (if m.st e.h = 1 then (m.end_ e.h 3, 0) else (m, 6))
 else if e.op = 2 ∨ (e.er = 4 ∧ e.op ≠ 1) then (if m.st e.h = 1 then (m, 6) else (m, 0))
 else if e.er ≠ 0 then (m, 0)
 else if e.op = 1 then (if m.startOk e.new = true then (m.arm e.new e.t, 0) else (m, 6))
 else if e.op = 4 then (if m.st e.h = 1 then (m, 0) else (m, 6))
 else if m.st e.h = 1 ∧ e.nn = e.hn ∧ e.ng = wrap64 (e.hg + 1) then ((m.end_ e.h 4).arm e.new e.t, 0) else (m, 6)
def doF (m : Md) (e : Ev) : Md × Int :=
 if rightJ e = false then (m, 8)
 else if e.k = 1 then (if e.t = wrap64 (m.clk + 1) then ({ m with clk := e.t }, 0) else (m, 6))
 else if e.k = 4 then (if m.st e.h = 1 ∧ m.dl e.h ≤ e.t ∧ e.t ≤ m.clk then (m.end_ e.h 2, 0) else (m, 6))
 else if e.k = 3 then pointF m e
 else (m, 8)
structure Wk where
 op : Int
 hn : Int
 hg : Int
 t : Int
 beg : Int
 pt : Option (Int × Int × Bool × Int)
structure Be where
 nw : Int
 m : Md
 wks : Int → Option Wk
def be0 (n : Int) : Be := ⟨n, md0, fun _ => none⟩
def updW (f : Int → Option Wk) (x : Int) (v : Option Wk) : Int → Option Wk := fun l => if l = x then v else f l
def withinB (d t f g : Int) : Bool := decide (t ≤ wrap64 (d - f)) && decide (wrap64 (d - g) ≤ t)
def answersB (w : Wk) (e : Ev) : Bool := match w.pt with
 | none => false
 | some (a, b, y, r) => a == e.nn && b == e.ng && y == e.y && r == e.er
def pointOk (b : Be) (w : Wk) (e : Ev) : Bool :=
 !(w.pt.isSome || (e.op != 1 && !(e.hn == w.hn && e.hg == w.hg))) && !((e.er == 0 && (e.op == 1 || e.op == 3)) && !withinB e.t w.t w.beg b.m.clk)
def ptOf (e : Ev) : Int × Int × Bool × Int := (e.nn, e.ng, e.y, e.er)
def pointB (b : Be) (w : Wk) (e : Ev) : Be × Int :=
 if pointOk b w e = true then
  if (doF b.m e).2 = 0 then ({ b with m := (doF b.m e).1, wks := updW b.wks e.wk (some { w with pt := some (ptOf e) }) }, 0)
  else ({ b with m := (doF b.m e).1 }, (doF b.m e).2)
 else (b, 6)
def hearF (b : Be) (e : Ev) : Be × Int :=
 if rightJ e = false ∨ b.nw ≤ e.wk then (b, 8)
 else if e.k = 1 then ({ b with m := (doF b.m e).1 }, (doF b.m e).2)
 else match b.wks e.wk with
 | none => if e.k = 2 then ({ b with wks := updW b.wks e.wk (some ⟨e.op, e.hn, e.hg, e.t, b.m.clk, none⟩) }, 0) else (b, 6)
 | some w =>
  if e.k = 2 then (b, 6)
  else if e.k = 4 then (if w.op ≠ 5 ∨ e.t < w.beg then (b, 6) else ({ b with m := (doF b.m e).1 }, (doF b.m e).2))
  else if w.op ≠ e.op then (b, 6)
  else if e.k = 3 then pointB b w e
  else if e.op ≤ 4 ∧ answersB w e = false then (b, 6)
  else ({ b with wks := updW b.wks e.wk none }, 0)
theorem hear_nw (b : Be) (e : Ev) : (hearF b e).1.nw = b.nw := by
 unfold hearF pointB
 split
 ·rfl
 ·split
  ·rfl
  ·split
   ·split <;> rfl
   ·split
    ·rfl
    ·split
     ·split <;> rfl
     ·split
      ·rfl
      ·split
       ·split
        ·split <;> rfl
        ·rfl
       ·split <;> rfl
end Go.Proofs.Ythniclbmpeklmaa.Ju
end
section
namespace Go.Proofs.Ythniclbmpeklmaa.Ju
open Go.RowKit Go.Maps Go.Proofs.YthniclbmpeklmaaW.PrintWords Go.Proofs.YthniclbmpeklmaaW.PrintLast Go.Proofs.YthniclbmpeklmaaW.PrintMore Go.Proofs.Ythniclbmpeklmaa.Mp Go.Proofs.Ythniclbmpeklmaa.Au
set_option linter.unusedVariables false
set_option linter.unusedSimpArgs false
abbrev faV (p : Int × Int) : Value := .agg #[.int .i64 p.1, .int .i64 p.2]
def fV (f : Ha → Option (Int × Int)) : Ha → Option Value := fun x => (f x).map faV
def iV (f : Int → Option Int) : Int → Option Value := fun x => (f x).map (Value.int .i64)
def pV (f : Int → Option Nat) : Int → Option Value := fun x => (f x).map fun g => .pointer (some ⟨g, 0, none⟩)
abbrev mdA (m : Md) (m1 m2 : Nat) : Array Value := #[.int .i64 m.clk, .map (some m1), .map (some m2)]
structure MdIs (w : World) (B b n : Nat) (m : Md) (m1 m2 : Nat) : Prop where
 blk : w.heap[b]? = some (.cells (mdA m m1 m2) 125 (0, 0))
 mf : ∃ z, z ≤ n ∧ MapIs haV Try.prog 34 w m1 z (fV m.fat)
 ml : ∃ z, z ≤ n ∧ MapIs (Value.int .i64) Try.prog 3 w m2 z (iV m.lst)
 hb : B ≤ b
 h1 : B ≤ m1
 h2 : B ≤ m2
 m12 : m1 ≠ m2
theorem zeroFa (w : World) : (zeroValue 122).run Try.prog w = .ok (faV (0, 0)) w := by kernel_rfl
section
variable {w w1 : World} {B b n m1 m2 : Nat} {m : Md}
theorem MdIs.move (h : MdIs w B b n m m1 m2) (hb : ∀ g, g < w.heap.size → g = b ∨ g = m1 ∨ g = m2 → w1.heap[g]? = w.heap[g]?) : MdIs w1 B b n m m1 m2 := by
 obtain ⟨z1, hz1, h1⟩ := h.mf
 obtain ⟨z2, hz2, h2⟩ := h.ml
 exact ⟨(hb b (blk_lt h.blk) (.inl rfl)).trans h.blk, ⟨z1, hz1, h1.move (hb m1 h1.lt (.inr (.inl rfl)))⟩, ⟨z2, hz2, h2.move (hb m2 h2.lt (.inr (.inr rfl)))⟩, h.hb, h.h1, h.h2, h.m12⟩
theorem MdIs.up {n' : Nat} (h : MdIs w B b n m m1 m2) (hn : n ≤ n') : MdIs w B b n' m m1 m2 := by
 obtain ⟨z1, hz1, h1⟩ := h.mf
 obtain ⟨z2, hz2, h2⟩ := h.ml
 exact ⟨h.blk, ⟨z1, by omega, h1⟩, ⟨z2, by omega, h2⟩, h.hb, h.h1, h.h2, h.m12⟩
theorem MdIs.below (h : MdIs w B b n m m1 m2) (hb : Below w.heap.size w w1) : MdIs w1 B b n m m1 m2 := h.move fun g hg _ => hb.block g hg
theorem MdIs.alloc (h : MdIs w B b n m m1 m2) (o : Obj) : MdIs (w.alloc o) B b n m m1 m2 := h.below (below_alloc (Below.refl _ _) o)
theorem MdIs.drew (h : MdIs w B b n m m1 m2) : MdIs w.drew B b n m m1 m2 := h.move fun g hg _ => rfl
theorem MdIs.drewN (h : MdIs w B b n m m1 m2) (q : Nat) : MdIs (w.drewN q) B b n m m1 m2 := h.move fun g hg _ => rfl
theorem MdIs.cell (h : MdIs w B b n m m1 m2) (i : Nat) : w.cell? ⟨b, i, none⟩ = (mdA m m1 m2)[i]? := blk_cell h.blk i
theorem MdIs.lt (h : MdIs w B b n m m1 m2) : b < w.heap.size := blk_lt h.blk
theorem MdIs.lt1 (h : MdIs w B b n m m1 m2) : m1 < w.heap.size := by obtain ⟨z1, _, h1⟩ := h.mf; exact h1.lt
theorem MdIs.lt2 (h : MdIs w B b n m m1 m2) : m2 < w.heap.size := by obtain ⟨z1, _, h1⟩ := h.ml; exact h1.lt
theorem MdIs.b1 (h : MdIs w B b n m m1 m2) : b ≠ m1 := by obtain ⟨z1, _, h1⟩ := h.mf; obtain ⟨_, _, q⟩ := h1.block; exact map_ne h.blk q
theorem MdIs.b2 (h : MdIs w B b n m m1 m2) : b ≠ m2 := by obtain ⟨z1, _, h1⟩ := h.ml; obtain ⟨_, _, q⟩ := h1.block; exact map_ne h.blk q
theorem MdIs.clock (h : MdIs w B b n m m1 m2) (t : Int) : MdIs (w.setCell ⟨b, 0, none⟩ (.int .i64 t)) B b n { m with clk := t } m1 m2 := by
 obtain ⟨z1, hz1, h1⟩ := h.mf
 obtain ⟨z2, hz2, h2⟩ := h.ml
 exact ⟨blk_set h.blk 0 _, ⟨z1, hz1, h1.move (Below.heap_setCell _ _ _ _ h.b1.symm)⟩, ⟨z2, hz2, h2.move (Below.heap_setCell _ _ _ _ h.b2.symm)⟩, h.hb, h.h1, h.h2, h.m12⟩
theorem MdIs.look (h : MdIs w B b n m m1 m2) {x : Ha} {kl : Lit} (hk : keyOf Try.prog 34 (haV x) = some kl) (W : World) (hb : W.heap[m1]? = w.heap[m1]?) :
  (Instr.lookup 123 (.map (some m1)) (haV x) false).run Try.prog W = .ok (.agg #[.int .i64 (m.st x), .int .i64 (m.dl x)]) W := by
 obtain ⟨z1, hz1, h1⟩ := h.mf
 have := (h1.move hb).look lawH Try.underlying123 (zeroFa W) (x := x) hk
 rw [this]
 unfold fV Md.st Md.dl
 cases m.fat x <;> rfl
theorem MdIs.lookL (h : MdIs w B b n m m1 m2) {x : Int} (hx : (Lit.int .i64 x).wf = true) (W : World) (hb : W.heap[m2]? = w.heap[m2]?) :
  (Instr.lookup 95 (.map (some m2)) (.int .i64 x) true).run Try.prog W = .ok (.tuple #[.int .i64 ((m.lst x).getD 0), .bool (m.lst x).isSome]) W := by
 obtain ⟨z1, hz1, h1⟩ := h.ml
 have := (h1.move hb).look_ok lawI Try.underlying95 (zeroI W) (x := x) (keyOf_int_mk Try.underlying3 hx)
 rw [this]
 unfold iV
 cases m.lst x <;> rfl
theorem fV_upd (f : Ha → Option (Int × Int)) (h : Ha) (v : Int × Int) : (fun l => if l = h then some (faV v) else fV f l) = fV (updF f h v) := by
 funext l
 unfold fV updF
 by_cases e : l = h <;> simp [e]
theorem iV_upd (f : Int → Option Int) (h : Int) (v : Int) : (fun l => if l = h then some (.int .i64 v) else iV f l) = iV (updL f h v) := by
 funext l
 unfold iV updL
 by_cases e : l = h <;> simp [e]
theorem MdIs.putF (h : MdIs w B b n m m1 m2) {f' : Ha → Option (Int × Int)} {z' : Nat} (hm : MapIs haV Try.prog 34 w1 m1 z' (fV f')) (hz : z' ≤ n + 1) (hg : w.grownBy w1 (some m1)) : MdIs w1 B b (n + 1) { m with fat := f' } m1 m2 := by
 obtain ⟨z2, hz2, h2⟩ := h.ml
 exact ⟨blk_grown h.blk hg (fun q => h.b1 (Option.some.inj q)), ⟨z', hz, hm⟩, ⟨z2, by omega, h2.move (hg.block m2 h2.lt (fun q => h.m12 (Option.some.inj q).symm))⟩, h.hb, h.h1, h.h2, h.m12⟩
theorem MdIs.putL (h : MdIs w B b n m m1 m2) {f' : Int → Option Int} {z' : Nat} (hm : MapIs (Value.int .i64) Try.prog 3 w1 m2 z' (iV f')) (hz : z' ≤ n + 1) (hg : w.grownBy w1 (some m2)) : MdIs w1 B b (n + 1) { m with lst := f' } m1 m2 := by
 obtain ⟨z1, hz1, h1⟩ := h.mf
 exact ⟨blk_grown h.blk hg (fun q => h.b2 (Option.some.inj q)), ⟨z1, by omega, h1.move (hg.block m1 h1.lt (fun q => h.m12 (Option.some.inj q)))⟩, ⟨z', hz, hm⟩, h.hb, h.h1, h.h2, h.m12⟩
end
def mdS (b m1 m2 : Nat) : Nat → Prop := fun g => g = b ∨ g = m1 ∨ g = m2
abbrev wkA (iv : Ev) (beg : Int) (pp : Option Addr) : Array Value := #[.int .i64 iv.k, .int .i64 iv.wk, .int .i64 iv.op, .int .i64 iv.hn, .int .i64 iv.hg, .int .i64 iv.nn, .int .i64 iv.ng, .int .i64 iv.t, .int .i64 iv.a, .int .i64 iv.u, .bool iv.y, .int .i64 iv.er, .int .i64 beg, .pointer pp]
def WkIs (w : World) (B g : Nat) (k : Wk) : Prop :=
 B ≤ g ∧ ∃ iv pp, w.heap[g]? = some (.cells (wkA iv k.beg pp) 119 (0, 0)) ∧ iv.op = k.op ∧ iv.hn = k.hn ∧ iv.hg = k.hg ∧ iv.t = k.t ∧
  ((pp = none ∧ k.pt = none) ∨ ∃ q ev, pp = some ⟨q, 0, none⟩ ∧ B ≤ q ∧ w.heap[q]? = some (.cells (evA ev) 54 (0, 0)) ∧ k.pt = some (ptOf ev))
theorem WkIs.keep {w w1 : World} {B g : Nat} {k : Wk} (h : WkIs w B g k) (hb : ∀ (q : Nat) (cs : Array Value) (t : TypeId), w.heap[q]? = some (.cells cs t (0, 0)) → (q = g ∨ t = 54) → w1.heap[q]? = w.heap[q]?) : WkIs w1 B g k := by
 obtain ⟨h0, iv, pp, h1, h2, h3, h4, h5, h6⟩ := h
 refine ⟨h0, iv, pp, (hb _ _ _ h1 (.inl rfl)).trans h1, h2, h3, h4, h5, ?_⟩
 rcases h6 with h6 | ⟨q, ev, a1, a2, a3, a4⟩
 ·exact .inl h6
 ·exact .inr ⟨q, ev, a1, a2, (hb _ _ _ a3 (.inr rfl)).trans a3, a4⟩
abbrev beA (nw : Int) (mb m3 : Nat) : Array Value := #[.pointer (some ⟨mb, 0, none⟩), .int .i64 nw, .map (some m3)]
structure BeIs (w : World) (B b n : Nat) (s : Be) (mb m1 m2 m3 : Nat) (pf : Int → Option Nat) : Prop where
 blk : w.heap[b]? = some (.cells (beA s.nw mb m3) 61 (0, 0))
 md : MdIs w B mb n s.m m1 m2
 mw : ∃ ks : List Int, ks.Nodup ∧ ks.length ≤ n ∧ (∀ x, x ∈ ks ↔ (pf x).isSome = true) ∧ MapIs (Value.int .i64) Try.prog 3 w m3 ks.length (pV pf)
 wk : ∀ x, (pf x = none ∧ s.wks x = none) ∨ ∃ g k, pf x = some g ∧ s.wks x = some k ∧ WkIs w B g k
 inj : ∀ x y g, pf x = some g → pf y = some g → x = y
 hb : B ≤ b
 h3 : B ≤ m3
 m31 : m3 ≠ m1
 m32 : m3 ≠ m2
theorem WkIs.ty {w : World} {B g : Nat} {k : Wk} (h : WkIs w B g k) : ∃ cs, w.heap[g]? = some (.cells cs 119 (0, 0)) := by obtain ⟨_, iv, pp, hg, _⟩ := h; exact ⟨_, hg⟩
section
variable {w w1 w2 : World} {B b n mb m1 m2 m3 : Nat} {s : Be} {pf : Int → Option Nat}
theorem BeIs.lt (h : BeIs w B b n s mb m1 m2 m3 pf) : b < w.heap.size := blk_lt h.blk
theorem BeIs.cell (h : BeIs w B b n s mb m1 m2 m3 pf) (i : Nat) : w.cell? ⟨b, i, none⟩ = (beA s.nw mb m3)[i]? := blk_cell h.blk i
theorem BeIs.map3 (h : BeIs w B b n s mb m1 m2 m3 pf) : ∃ es cl, w.heap[m3]? = some (.map es cl) := by obtain ⟨_, _, _, _, h1⟩ := h.mw; exact h1.block
theorem BeIs.model {n' : Nat} {m' : Md} (h : BeIs w B b n s mb m1 m2 m3 pf) (hm : MdIs w1 B mb n' m' m1 m2) (hn : n ≤ n') (hf : Fr w w1 (mdS mb m1 m2)) : BeIs w1 B b n' { s with m := m' } mb m1 m2 m3 pf := by
 obtain ⟨ks, c1, c2, c3, c4⟩ := h.mw
 obtain ⟨z1, _, q1⟩ := h.md.mf
 obtain ⟨z2, _, q2⟩ := h.md.ml
 obtain ⟨_, _, q1⟩ := q1.block
 obtain ⟨_, _, q2⟩ := q2.block
 obtain ⟨_, _, q3⟩ := c4.block
 have key : ∀ (g : Nat) (cs : Array Value) (t : TypeId), w.heap[g]? = some (.cells cs t (0, 0)) → t ≠ 125 → w1.heap[g]? = w.heap[g]? := fun g cs t hg ht => hf.block g (blk_lt hg) (by
  rintro (e | e | e)
  ·exact types_ne hg h.md.blk ht e
  ·exact map_ne hg q1 e
  ·exact map_ne hg q2 e)
 refine ⟨(key _ _ _ h.blk (by decide)).trans h.blk, hm, ⟨ks, c1, by omega, c3, c4.move (hf.block m3 c4.lt (by
  rintro (e | e | e)
  ·exact map_ne h.md.blk q3 e.symm
  ·exact h.m31 e
  ·exact h.m32 e))⟩, fun x => ?_, h.inj, h.hb, h.h3, h.m31, h.m32⟩
 rcases h.wk x with c | ⟨g, k, p1, p2, p3⟩
 ·exact .inl c
 ·refine .inr ⟨g, k, p1, p2, p3.keep fun q cs t hq ht => key q cs t hq ?_⟩
  rcases ht with rfl | rfl
  ·obtain ⟨_, hg⟩ := p3.ty
   rw [hg] at hq
   injection hq with hq
   injection hq with _ hq
   rw [← hq]
   decide
  ·decide
theorem BeIs.move (h : BeIs w B b n s mb m1 m2 m3 pf) (hb : ∀ g, g < w.heap.size → w1.heap[g]? = w.heap[g]?) : BeIs w1 B b n s mb m1 m2 m3 pf := by
 obtain ⟨ks, c1, c2, c3, c4⟩ := h.mw
 refine ⟨(hb _ h.lt).trans h.blk, h.md.move (fun g hg _ => hb g hg), ⟨ks, c1, c2, c3, c4.move (hb _ c4.lt)⟩, fun x => ?_, h.inj, h.hb, h.h3, h.m31, h.m32⟩
 rcases h.wk x with c | ⟨g, k, p1, p2, p3⟩
 ·exact .inl c
 ·exact .inr ⟨g, k, p1, p2, p3.keep fun q cs t hq _ => hb q (blk_lt hq)⟩
theorem BeIs.below (h : BeIs w B b n s mb m1 m2 m3 pf) (hb : Below w.heap.size w w1) : BeIs w1 B b n s mb m1 m2 m3 pf := h.move fun g hg => hb.block g hg
theorem BeIs.alloc (h : BeIs w B b n s mb m1 m2 m3 pf) (o : Obj) : BeIs (w.alloc o) B b n s mb m1 m2 m3 pf := h.below (below_alloc (Below.refl _ _) o)
theorem BeIs.drew (h : BeIs w B b n s mb m1 m2 m3 pf) : BeIs w.drew B b n s mb m1 m2 m3 pf := h.move fun g hg => rfl
theorem BeIs.drewN (h : BeIs w B b n s mb m1 m2 m3 pf) (q : Nat) : BeIs (w.drewN q) B b n s mb m1 m2 m3 pf := h.move fun g hg => rfl
theorem BeIs.up {n' : Nat} (h : BeIs w B b n s mb m1 m2 m3 pf) (hn : n ≤ n') : BeIs w B b n' s mb m1 m2 m3 pf := by
 obtain ⟨ks, c1, c2, c3⟩ := h.mw
 exact ⟨h.blk, h.md.up hn, ⟨ks, c1, by omega, c3⟩, h.wk, h.inj, h.hb, h.h3, h.m31, h.m32⟩
theorem BeIs.look (h : BeIs w B b n s mb m1 m2 m3 pf) {x : Int} (hx : (Lit.int .i64 x).wf = true) (W : World) (hW : W.heap[m3]? = w.heap[m3]?) :
  (Instr.lookup 59 (.map (some m3)) (.int .i64 x) true).run Try.prog W = .ok (.tuple #[(pV pf x).getD (.pointer none), .bool (pV pf x).isSome]) W := by
 obtain ⟨ks, c1, c2, c3, c4⟩ := h.mw
 exact (c4.move hW).look_ok lawI Try.underlying59 (z := .pointer none) (by kernel_rfl) (x := x) (keyOf_int_mk Try.underlying3 hx)
theorem pV_none {x : Int} (h : pf x = none) : pV pf x = none := by unfold pV; rw [h]; rfl
theorem pV_some {x : Int} {g : Nat} (h : pf x = some g) : pV pf x = some (.pointer (some ⟨g, 0, none⟩)) := by unfold pV; rw [h]; rfl
theorem BeIs.idle (h : BeIs w B b n s mb m1 m2 m3 pf) {x : Int} (hx : s.wks x = none) : pf x = none := by
 rcases h.wk x with c | ⟨g, k, p1, p2, _⟩
 ·exact c.1
 ·rw [hx] at p2; cases p2
theorem BeIs.busy (h : BeIs w B b n s mb m1 m2 m3 pf) {x : Int} {k : Wk} (hx : s.wks x = some k) : ∃ g, pf x = some g ∧ WkIs w B g k := by
 rcases h.wk x with c | ⟨g, k', p1, p2, p3⟩
 ·rw [hx] at c; cases c.2
 ·rw [hx] at p2; obtain rfl := Option.some.inj p2; exact ⟨g, p1, p3⟩
def updP (f : Int → Option Nat) (x : Int) (v : Option Nat) : Int → Option Nat := fun l => if l = x then v else f l
theorem pV_upd (f : Int → Option Nat) (x : Int) (g : Nat) : (fun l => if l = x then some (.pointer (some ⟨g, 0, none⟩)) else pV f l) = pV (updP f x (some g)) := by
 funext l
 unfold pV updP
 by_cases e : l = x <;> simp [e]
theorem pV_del (f : Int → Option Nat) (x : Int) : (fun l => if l = x then none else pV f l) = pV (updP f x none) := by
 funext l
 unfold pV updP
 by_cases e : l = x <;> simp [e]
theorem BeIs.cells_ne3 (h : BeIs w B b n s mb m1 m2 m3 pf) {g : Nat} {cs : Array Value} {t : TypeId} (hg : w.heap[g]? = some (.cells cs t (0, 0))) : g ≠ m3 := by
 obtain ⟨_, _, q⟩ := h.map3
 exact map_ne hg q
theorem BeIs.invoke {g : Nat} {iv : Ev} {beg : Int} {x : Int} (h : BeIs w B b n s mb m1 m2 m3 pf) (hb : Below w.heap.size w w1) (hg : w1.heap[g]? = some (.cells (wkA iv beg none) 119 (0, 0))) (hge : w.heap.size ≤ g) (hB : B ≤ w.heap.size) (hx : s.wks x = none) :
  ∃ z, z ≤ n ∧ MapIs (Value.int .i64) Try.prog 3 w1 m3 z (pV pf) ∧ ∀ w2, MapIs (Value.int .i64) Try.prog 3 w2 m3 (if (pV pf x).isSome then z else z + 1) (fun l => if l = x then some (.pointer (some ⟨g, 0, none⟩)) else pV pf l) → w1.grownBy w2 (some m3) →
   BeIs w2 B b (n + 1) { s with wks := updW s.wks x (some ⟨iv.op, iv.hn, iv.hg, iv.t, beg, none⟩) } mb m1 m2 m3 (updP pf x (some g)) := by
 have h' := h.below hb
 have hpx := h.idle hx
 obtain ⟨ks, c1, c2, c3, c4⟩ := h'.mw
 refine ⟨ks.length, c2, c4, fun w2 hm hgr => ?_⟩
 rw [pV_none hpx, pV_upd] at hm
 have hno : x ∉ ks := fun q => by have := (c3 x).1 q; rw [hpx] at this; cases this
 have key : ∀ (q : Nat) (cs : Array Value) (t : TypeId), w1.heap[q]? = some (.cells cs t (0, 0)) → w2.heap[q]? = w1.heap[q]? := fun q cs t hq => hgr.block q (blk_lt hq) (fun e => h'.cells_ne3 hq (Option.some.inj e))
 have old : ∀ y g', pf y = some g' → g' < w.heap.size := fun y g' hy => by
  rcases h.wk y with c | ⟨g2, k, p1, p2, p3⟩
  ·rw [c.1] at hy; cases hy
  ·rw [hy] at p1; obtain rfl := Option.some.inj p1; obtain ⟨_, hg2⟩ := p3.ty; exact blk_lt hg2
 refine ⟨(key _ _ _ h'.blk).trans h'.blk, ?_, ⟨ks ++ [x], ?_, by simp; omega, fun y => ?_, by simpa using hm⟩, fun y => ?_, fun y y' g' hy hy' => ?_, h.hb, h.h3, h.m31, h.m32⟩
 ·refine (h'.md.up (Nat.le_succ n)).move fun q hq e => hgr.block q hq (fun e' => ?_)
  obtain rfl := Option.some.inj e'
  rcases e with e | e | e
  ·exact h'.cells_ne3 h'.md.blk e.symm
  ·exact h.m31 e
  ·exact h.m32 e
 ·rw [List.nodup_append]
  exact ⟨c1, by simp, fun a ha b' hb' => by obtain rfl := List.mem_singleton.1 hb'; exact fun e => hno (e ▸ ha)⟩
 ·unfold updP
  rw [List.mem_append, List.mem_singleton]
  by_cases e : y = x
  ·simp [e]
  ·rw [if_neg e, ← c3 y]; simp [e]
 ·show (updP pf x (some g) y = none ∧ updW s.wks x _ y = none) ∨ ∃ g' k, updP pf x (some g) y = some g' ∧ updW s.wks x _ y = some k ∧ WkIs w2 B g' k
  unfold updP updW
  by_cases e : y = x
  ·rw [if_pos e, if_pos e]
   exact .inr ⟨g, _, rfl, rfl, by omega, iv, none, (key _ _ _ hg).trans hg, rfl, rfl, rfl, rfl, .inl ⟨rfl, rfl⟩⟩
  ·rw [if_neg e, if_neg e]
   rcases h'.wk y with c | ⟨g2, k, p1, p2, p3⟩
   ·exact .inl c
   ·exact .inr ⟨g2, k, p1, p2, p3.keep fun q cs t hq _ => key q cs t hq⟩
 ·unfold updP at hy hy'
  by_cases e : y = x
  ·rw [if_pos e] at hy
   by_cases e' : y' = x
   ·rw [e, e']
   ·rw [if_neg e'] at hy'
    have := old _ _ hy'
    have := Option.some.inj hy
    omega
  ·rw [if_neg e] at hy
   by_cases e' : y' = x
   ·rw [if_pos e'] at hy'
    have := old _ _ hy
    have := Option.some.inj hy'
    omega
   ·rw [if_neg e'] at hy'
    exact h.inj y y' g' hy hy'
theorem BeIs.drop {x : Int} {k : Wk} (h : BeIs w B b n s mb m1 m2 m3 pf) (hx : s.wks x = some k) :
  ∃ z, MapIs (Value.int .i64) Try.prog 3 w m3 z (pV pf) ∧ ∀ w2, MapIs (Value.int .i64) Try.prog 3 w2 m3 (if (pV pf x).isSome then z - 1 else z) (fun l => if l = x then none else pV pf l) → w.grownBy w2 (some m3) →
   BeIs w2 B b n { s with wks := updW s.wks x none } mb m1 m2 m3 (updP pf x none) := by
 obtain ⟨g, hpx, hwk⟩ := h.busy hx
 obtain ⟨ks, c1, c2, c3, c4⟩ := h.mw
 refine ⟨ks.length, c4, fun w2 hm hgr => ?_⟩
 rw [pV_some hpx, pV_del] at hm
 have hin : x ∈ ks := (c3 x).2 (by rw [hpx]; rfl)
 have key : ∀ (q : Nat) (cs : Array Value) (t : TypeId), w.heap[q]? = some (.cells cs t (0, 0)) → w2.heap[q]? = w.heap[q]? := fun q cs t hq => hgr.block q (blk_lt hq) (fun e => h.cells_ne3 hq (Option.some.inj e))
 have hlen : (ks.erase x).length = ks.length - 1 := List.length_erase_of_mem hin
 refine ⟨(key _ _ _ h.blk).trans h.blk, ?_, ⟨ks.erase x, c1.erase x, by rw [hlen]; omega, fun y => ?_, by rw [hlen]; exact hm⟩, fun y => ?_, fun y y' g' hy hy' => ?_, h.hb, h.h3, h.m31, h.m32⟩
 ·refine h.md.move fun q hq e => hgr.block q hq (fun e' => ?_)
  obtain rfl := Option.some.inj e'
  rcases e with e | e | e
  ·exact h.cells_ne3 h.md.blk e.symm
  ·exact h.m31 e
  ·exact h.m32 e
 ·unfold updP
  rw [c1.mem_erase_iff]
  by_cases e : y = x
  ·simp [e]
  ·rw [if_neg e, ← c3 y]; simp [e]
 ·show (updP pf x none y = none ∧ updW s.wks x none y = none) ∨ ∃ g' k, updP pf x none y = some g' ∧ updW s.wks x none y = some k ∧ WkIs w2 B g' k
  unfold updP updW
  by_cases e : y = x
  ·rw [if_pos e, if_pos e]; exact .inl ⟨rfl, rfl⟩
  ·rw [if_neg e, if_neg e]
   rcases h.wk y with c | ⟨g2, k, p1, p2, p3⟩
   ·exact .inl c
   ·exact .inr ⟨g2, k, p1, p2, p3.keep fun q cs t hq _ => key q cs t hq⟩
 ·unfold updP at hy hy'
  by_cases e : y = x
  ·rw [if_pos e] at hy; cases hy
  ·rw [if_neg e] at hy
   by_cases e' : y' = x
   ·rw [if_pos e'] at hy'; cases hy'
   ·rw [if_neg e'] at hy'
    exact h.inj y y' g' hy hy'
theorem BeIs.pointed {x : Int} {k : Wk} {g q : Nat} {ev : Ev} (h : BeIs w B b n s mb m1 m2 m3 pf) (hx : s.wks x = some k) (hp : pf x = some g) (hq : w.heap[q]? = some (.cells (evA ev) 54 (0, 0))) (hB : B ≤ q) :
  BeIs (w.setCell ⟨g, 13, none⟩ (.pointer (some ⟨q, 0, none⟩))) B b n { s with wks := updW s.wks x (some { k with pt := some (ptOf ev) }) } mb m1 m2 m3 pf := by
 obtain ⟨g0, hp0, hwk⟩ := h.busy hx
 obtain rfl : g0 = g := Option.some.inj (hp0.symm.trans hp)
 obtain ⟨_, hgt⟩ := hwk.ty
 have far : ∀ (q' : Nat) (cs : Array Value) (t : TypeId), w.heap[q']? = some (.cells cs t (0, 0)) → t ≠ 119 → (w.setCell ⟨g0, 13, none⟩ (.pointer (some ⟨q, 0, none⟩))).heap[q']? = w.heap[q']? := fun q' cs t hq' ht => Below.heap_setCell _ _ _ _ (fun e => types_ne hq' hgt ht e)
 have farm : ∀ q' : Nat, (∃ (es : Array MapEntry) (cl : Nat), w.heap[q']? = some (.map es cl)) → (w.setCell ⟨g0, 13, none⟩ (.pointer (some ⟨q, 0, none⟩))).heap[q']? = w.heap[q']? := fun q' ⟨_, _, hq'⟩ => Below.heap_setCell _ _ _ _ (fun e => map_ne hgt hq' e.symm)
 obtain ⟨ks, c1, c2, c3, c4⟩ := h.mw
 obtain ⟨z1, _, q1⟩ := h.md.mf
 obtain ⟨z2, _, q2⟩ := h.md.ml
 refine ⟨(far _ _ _ h.blk (by decide)).trans h.blk, h.md.move fun q' hq' e => ?_, ⟨ks, c1, c2, c3, c4.move (farm _ h.map3)⟩, fun y => ?_, h.inj, h.hb, h.h3, h.m31, h.m32⟩
 ·rcases e with rfl | rfl | rfl
  ·exact far _ _ _ h.md.blk (by decide)
  ·exact farm _ q1.block
  ·exact farm _ q2.block
 ·show (pf y = none ∧ updW s.wks x _ y = none) ∨ ∃ g' k', pf y = some g' ∧ updW s.wks x _ y = some k' ∧ WkIs _ B g' k'
  unfold updW
  by_cases e : y = x
  ·rw [if_pos e, e]
   obtain ⟨w0, iv, pp, w1', w2', w3', w4', w5', _⟩ := hwk
   refine .inr ⟨g0, _, hp, rfl, w0, iv, some ⟨q, 0, none⟩, ?_, w2', w3', w4', w5', .inr ⟨q, ev, rfl, hB, (far _ _ _ hq (by decide)).trans hq, rfl⟩⟩
   have := blk_set w1' 13 (.pointer (some ⟨q, 0, none⟩))
   exact this
  ·rw [if_neg e]
   rcases h.wk y with c | ⟨g2, k2, p1, p2, p3⟩
   ·exact .inl c
   ·refine .inr ⟨g2, k2, p1, p2, p3.keep fun q' cs t hq' ht => ?_⟩
    rcases ht with rfl | rfl
    ·exact Below.heap_setCell _ _ _ _ (fun e' => e (h.inj y x g0 (by rw [← show q' = g0 from e']; exact p1) hp))
    ·exact far _ _ _ hq' (by decide)
end
end Go.Proofs.Ythniclbmpeklmaa.Ju
end
section
set_option maxHeartbeats 4000000
set_option maxRecDepth 100000
namespace Go.Proofs.Ythniclbmpeklmaa.Ju
open Go.RowKit Go.Maps Go.Proofs.YthniclbmpeklmaaW.PrintWords Go.Proofs.YthniclbmpeklmaaW.PrintLast Go.Proofs.YthniclbmpeklmaaW.PrintMore Go.Proofs.Ythniclbmpeklmaa.Mp Go.Proofs.Ythniclbmpeklmaa.Au
set_option linter.unusedVariables false
set_option linter.unusedSimpArgs false
abbrev pA (b : Nat) : Value := .pointer (some ⟨b, 0, none⟩)
theorem still_tail_at' {P : Program} {id : Nat} {Q : Exit → Act → World → Prop} {a : Act} {w : World} {l : List Oper} (n : Nat) (hm : P.follows .mixedOrders = true) (hB : Region.lexTailB .any l.toArray n = true)
  (h : ∀ w2, w2 = w.drew → wpStill P l.toArray w2 (fun a' => wpList P l.toArray Q (l.drop n) a' w2) (l.take n) a) : (Code.region id l.toArray true).wp P Q a w :=
 wp_region_still_tail n hm hB (h _ rfl)
theorem fate_field (a d : Int) (W : World) : (Instr.field 122 (.agg #[.int .i64 a, .int .i64 d]) 0).run Try.prog W = .ok (.int .i64 a) W := by first | kernel_rfl | rfl | (have hu2 := Try.underlying122; simp [Instr.field, go_sem, hu2])
theorem model_new (w : World) : Calls Try.prog 40 #[] w fun r w' => r = .returned (pA (w.heap.size + 1 + 1)) ∧ MdIs w' w.heap.size (w.heap.size + 1 + 1) 0 md0 w.heap.size (w.heap.size + 1) ∧ Below w.heap.size w w' := by
 have hmm := @run_makeMap Try.prog
 have hu0 := Try.underlying125
 go_enter Try.func40, Try.ntmps40
 go_wp2
 go_ret
 have q1 := (MapIs.made (c := haV) w Try.prog 34).move (w' := ((w.alloc (.map #[] 0)).alloc (.map #[] 0)).alloc (.cells (mdA md0 w.heap.size (w.heap.size + 1)) 125)) (by rw [Below.heap_alloc _ _ _ (by simp; omega), Below.heap_alloc _ _ _ (by simp)])
 have q2 := (MapIs.made (c := Value.int .i64) (w.alloc (.map #[] 0)) Try.prog 3).move (w' := ((w.alloc (.map #[] 0)).alloc (.map #[] 0)).alloc (.cells (mdA md0 w.heap.size (w.heap.size + 1)) 125)) (by rw [Below.heap_alloc _ _ _ (by simp)])
 rw [show (w.alloc (.map #[] 0)).heap.size = w.heap.size + 1 by simp] at q2
 refine ⟨rfl, ⟨by have q := blk_new ((w.alloc (.map #[] 0)).alloc (.map #[] 0)) (.cells (mdA md0 w.heap.size (w.heap.size + 1)) 125); rw [show ((w.alloc (.map #[] 0)).alloc (.map #[] 0)).heap.size = w.heap.size + 1 + 1 by simp] at q; exact q, ⟨0, Nat.le_refl _, q1⟩, ⟨0, Nat.le_refl _, q2⟩, by omega, by omega, by omega, by omega⟩, below_alloc (below_alloc (below_alloc (Below.refl _ _) _) _) _⟩
theorem model_clock {w : World} {B b n m1 m2 : Nat} {m : Md} (h : MdIs w B b n m m1 m2) : Calls Try.prog 41 #[pA b] w fun r w' => r = .returned (.int .i64 m.clk) ∧ w = w' := by
 have hu0 := Try.underlying125
 have hc := fun i => h.cell i
 have hlt := h.lt
 clear h
 go_enter Try.func41, Try.ntmps41
 go_wp2
 go_ret
 exact ⟨rfl, rfl⟩
theorem model_status {w : World} {B b n m1 m2 : Nat} {m : Md} (x y : Int) (hx : (Lit.int .i64 x).wf = true) (hy : (Lit.int .i64 y).wf = true) (h : MdIs w B b n m m1 m2) : Calls Try.prog 33 #[pA b, .agg #[.int .i64 x, .int .i64 y]] w fun r w' => r = .returned (.int .i64 (m.st (x, y))) ∧ Below w.heap.size w w' := by
 have hu0 := Try.underlying125
 have hu1 := Try.underlying34
 have hu3 := Try.underlying122
 obtain ⟨kl, hk⟩ := keyH x y hx hy
 have hl := fun q => h.look hk ((w.alloc (.cells #[.int .i64 x, .int .i64 y] 34)).drewN q) (Below.heap_alloc w _ m1 h.lt1)
 obtain ⟨s, hs⟩ : ∃ s, m.st (x, y) = s := ⟨_, rfl⟩
 obtain ⟨d, hd⟩ : ∃ d, m.dl (x, y) = d := ⟨_, rfl⟩
 rw [hs, hd] at hl
 rw [hs]
 have hff := fun W => fate_field s d W
 have hc := fun i => h.cell i
 have hlt := h.lt
 clear h hk hs hd hx hy
 go_enter Try.func33, Try.ntmps33
 go_wp2
 go_quiet (fail)
 go_wp2
 go_ret
 exact ⟨rfl, by repeat (first | exact Below.refl _ _ | apply below_alloc | apply pw_below_drewN)⟩
theorem model_nothing (w : World) : Calls Try.prog 100 #[] w fun r w' => r = .returned (.tuple #[]) ∧ w' = w := by
 go_enter Try.func100, Try.ntmps100
 go_wp2
 go_end0
 exact ⟨rfl, rfl⟩
theorem unless_no (fn : Fn) (first cap : Array Value) (w : World) : Calls Try.prog 73 #[.bool false, .func fn first cap] w fun r w' => r = .returned (.int .i64 6) ∧ w' = w := by
 go_enter Try.func73, Try.ntmps73
 go_wp2
 go_ret
 exact ⟨rfl, rfl⟩
theorem unless_tick (cap : Array Value) (w : World) (Q : World → Prop) (h : Calls Try.prog 74 cap w fun r w' => r = .returned (.tuple #[]) ∧ Q w') : Calls Try.prog 73 #[.bool true, .func (.func 74) #[] cap] w fun r w' => r = .returned (.int .i64 0) ∧ Q w' := by
 have H := Aside0.mk (show Calls Try.prog 74 cap w fun r w' => r = .returned (.tuple #[]) ∧ Q w' from h)
 clear h
 go_enter Try.func73, Try.ntmps73
 go_wp2_with (go_at_call 74; (with_reducible refine H.out.mono ?_); rintro r w2 ⟨rfl, hq⟩; have HQ := Aside0.mk hq; clear hq)
 go_ret
 exact ⟨rfl, HQ.out⟩
theorem unless_end (cap : Array Value) (w : World) (Q : World → Prop) (h : Calls Try.prog 99 cap w fun r w' => r = .returned (.tuple #[]) ∧ Q w') : Calls Try.prog 73 #[.bool true, .func (.func 99) #[] cap] w fun r w' => r = .returned (.int .i64 0) ∧ Q w' := by
 have H := Aside0.mk (show Calls Try.prog 99 cap w fun r w' => r = .returned (.tuple #[]) ∧ Q w' from h)
 clear h
 go_enter Try.func73, Try.ntmps73
 go_wp2_with (go_at_call 99; (with_reducible refine H.out.mono ?_); rintro r w2 ⟨rfl, hq⟩; have HQ := Aside0.mk hq; clear hq)
 go_ret
 exact ⟨rfl, HQ.out⟩
theorem unless_nothing (cap : Array Value) (w : World) (Q : World → Prop) (h : Calls Try.prog 100 cap w fun r w' => r = .returned (.tuple #[]) ∧ Q w') : Calls Try.prog 73 #[.bool true, .func (.func 100) #[] cap] w fun r w' => r = .returned (.int .i64 0) ∧ Q w' := by
 have H := Aside0.mk (show Calls Try.prog 100 cap w fun r w' => r = .returned (.tuple #[]) ∧ Q w' from h)
 clear h
 go_enter Try.func73, Try.ntmps73
 go_wp2_with (go_at_call 100; (with_reducible refine H.out.mono ?_); rintro r w2 ⟨rfl, hq⟩; have HQ := Aside0.mk hq; clear hq)
 go_ret
 exact ⟨rfl, HQ.out⟩
theorem unless_start (cap : Array Value) (w : World) (Q : World → Prop) (h : Calls Try.prog 101 cap w fun r w' => r = .returned (.tuple #[]) ∧ Q w') : Calls Try.prog 73 #[.bool true, .func (.func 101) #[] cap] w fun r w' => r = .returned (.int .i64 0) ∧ Q w' := by
 have H := Aside0.mk (show Calls Try.prog 101 cap w fun r w' => r = .returned (.tuple #[]) ∧ Q w' from h)
 clear h
 go_enter Try.func73, Try.ntmps73
 go_wp2_with (go_at_call 101; (with_reducible refine H.out.mono ?_); rintro r w2 ⟨rfl, hq⟩; have HQ := Aside0.mk hq; clear hq)
 go_ret
 exact ⟨rfl, HQ.out⟩
theorem unless_rearm (cap : Array Value) (w : World) (Q : World → Prop) (h : Calls Try.prog 103 cap w fun r w' => r = .returned (.tuple #[]) ∧ Q w') : Calls Try.prog 73 #[.bool true, .func (.func 103) #[] cap] w fun r w' => r = .returned (.int .i64 0) ∧ Q w' := by
 have H := Aside0.mk (show Calls Try.prog 103 cap w fun r w' => r = .returned (.tuple #[]) ∧ Q w' from h)
 clear h
 go_enter Try.func73, Try.ntmps73
 go_wp2_with (go_at_call 103; (with_reducible refine H.out.mono ?_); rintro r w2 ⟨rfl, hq⟩; have HQ := Aside0.mk hq; clear hq)
 go_ret
 exact ⟨rfl, HQ.out⟩
theorem tick_any {w : World} {B b n m1 m2 eb xb : Nat} {m : Md} (e : Ev) (h : MdIs w B b n m m1 m2) (he : w.heap[eb]? = some (.cells (evA e) 54 (0, 0))) (hx : w.heap[xb]? = some (.cells #[pA b] 58 (0, 0))) : Calls Try.prog 74 #[pA eb, pA xb] w fun r w' => r = .returned (.tuple #[]) ∧ MdIs w' B b n { m with clk := e.t } m1 m2 ∧ Fr w w' (mdS b m1 m2) := by
 have hu0 := Try.underlying125
 have hu2 := Try.underlying54
 have H := Aside0.mk h
 have hc := fun i => h.cell i
 have hf := fun i => blk_frozen h.blk i
 have hce := fun i => blk_cell he i
 have hcx := fun i => blk_cell hx i
 have hlt := h.lt
 have hle := blk_lt he
 have hlx := blk_lt hx
 clear h he hx
 go_enter Try.func74, Try.ntmps74
 go_wp2
 go_end0
 exact ⟨rfl, H.out.clock e.t, (Fr.refl _ _).set _ _ (.inr (.inl rfl))⟩
theorem end1_any {w : World} {B b n m1 m2 sb xb hb : Nat} {m : Md} (s x y : Int) (hn : n ≤ 1000000) (hx : (Lit.int .i64 x).wf = true) (hy : (Lit.int .i64 y).wf = true) (h : MdIs w B b n m m1 m2) (h1 : w.heap[sb]? = some (.cells #[.int .i64 s] 3 (0, 0))) (h2 : w.heap[xb]? = some (.cells #[pA b] 58 (0, 0))) (h3 : w.heap[hb]? = some (.cells #[.int .i64 x, .int .i64 y] 34 (0, 0))) :
  Calls Try.prog 99 #[pA sb, pA xb, pA hb] w fun r w' => r = .returned (.tuple #[]) ∧ MdIs w' B b (n + 1) (m.end_ (x, y) s) m1 m2 ∧ Fr w w' (mdS b m1 m2) := by
 have hu0 := Try.underlying125
 have hu1 := Try.underlying34
 have hu3 := Try.underlying122
 have H := Aside0.mk h
 have HK := Aside0.mk (keyH x y hx hy)
 have HN := Aside0.mk hn
 have hlt := h.lt
 have hl1 := blk_lt h1
 have hl2 := blk_lt h2
 have hl3 := blk_lt h3
 have hc := fun i => h.cell i
 have hc1 := fun i => blk_cell h1 i
 have hc2 := fun i => blk_cell h2 i
 have hc3 := fun i => blk_cell h3 i
 clear h h1 h2 h3 hx hy hn
 go_enter Try.func99, Try.ntmps99
 refine still_tail_at' 7 (by kernel_rfl) (by kernel_rfl) fun w2 hw2 => ?_
 have H2 := Aside0.mk (show MdIs w2 B b n m m1 m2 by rw [hw2]; exact H.out.drew)
 have HF2 := Aside0.mk (show Fr w w2 (mdS b m1 m2) by rw [hw2]; exact (Fr.refl _ _).drew)
 have hd := fun i => H2.out.cell i
 have hd1 : ∀ i, w2.cell? ⟨sb, i, none⟩ = #[Value.int .i64 s][i]? := by intro i; rw [hw2]; exact hc1 i
 have hd2 : ∀ i, w2.cell? ⟨xb, i, none⟩ = #[pA b][i]? := by intro i; rw [hw2]; exact hc2 i
 have hd3 : ∀ i, w2.cell? ⟨hb, i, none⟩ = #[Value.int .i64 x, Value.int .i64 y][i]? := by intro i; rw [hw2]; exact hc3 i
 have hz : w2.heap.size = w.heap.size := by rw [hw2]; rfl
 rw [← hz] at hlt hl1 hl2 hl3
 clear hw2 hc hc1 hc2 hc3 H hz
 simp only [List.take_succ_cons, List.take_zero, List.drop_succ_cons, List.drop_zero]
 repeat still_step
 refine wpStill_nil ?_
 obtain ⟨z1, hz1, hm1⟩ := H2.out.mf
 obtain ⟨kl, hkl⟩ := HK.out
 refine wpl_store ha_inj rfl _ _ _ 123 rfl hm1 lawH Try.underlying123 (by unfold maxLen; have := HN.out; omega) (y := (x, y)) hkl (val := faV (s, 0)) rfl rfl rfl ?_
 intro w4 hm4 hg4
 rw [fV_upd] at hm4
 have HM4 := Aside0.mk (H2.out.putF hm4 (by split <;> omega) hg4)
 have HF4 := Aside0.mk (HF2.out.trans ((Fr.of_grown hg4).mono (fun g q => .inr (.inl (Option.some.inj q)))))
 clear hm4 hg4 hm1 hz1 H2 HF2 hkl hd hd1 hd2 hd3
 go_wp2
 go_end0
 exact ⟨rfl, HM4.out, HF4.out⟩
theorem end_any (b : Nat) (x y s : Int) (w : World) : Calls Try.prog 75 #[pA b, .agg #[.int .i64 x, .int .i64 y], .int .i64 s] w fun r w' => r = .returned (.func (.func 99) #[] #[pA (w.heap.size + 1 + 1), pA w.heap.size, pA (w.heap.size + 1)]) ∧ ((w.alloc (.cells #[pA b] 58)).alloc (.cells #[.int .i64 x, .int .i64 y] 34)).alloc (.cells #[.int .i64 s] 3) = w' := by
 have hu1 := Try.underlying34
 have hmf : ∀ (fn : Fn) (first cap : Array Value) (w : World), (Instr.makeFunc fn first cap).run Try.prog w = .ok (.func fn first cap) w := fun _ _ _ _ => rfl
 go_enter Try.func75, Try.ntmps75
 go_wp2
 go_ret
 exact ⟨rfl, rfl⟩
theorem arm_any {w : World} {B b n m1 m2 : Nat} {m : Md} (x y d : Int) (hn : n ≤ 1000000) (hx : (Lit.int .i64 x).wf = true) (hy : (Lit.int .i64 y).wf = true) (h : MdIs w B b n m m1 m2) :
  Calls Try.prog 102 #[pA b, .agg #[.int .i64 x, .int .i64 y], .int .i64 d] w fun r w' => r = .returned (.tuple #[]) ∧ MdIs w' B b (n + 2) (m.arm (x, y) d) m1 m2 ∧ Fr w w' (mdS b m1 m2) := by
 have hu0 := Try.underlying125
 have hu1 := Try.underlying34
 have hu3 := Try.underlying122
 have H := Aside0.mk (h.alloc (.cells #[.int .i64 x, .int .i64 y] 34))
 have HF := Aside0.mk ((Fr.refl w (mdS b m1 m2)).alloc (.cells #[.int .i64 x, .int .i64 y] 34))
 have HO := Aside0.mk (blk_new w (.cells #[.int .i64 x, .int .i64 y] 34))
 have HK := Aside0.mk (keyH x y hx hy)
 have HX := Aside0.mk hx
 have HN := Aside0.mk hn
 clear h hx hy hn
 go_enter Try.func102, Try.ntmps102
 go_wp2
 refine still_tail_at' 7 (by kernel_rfl) (by kernel_rfl) fun w2 hw2 => ?_
 have H2 := Aside0.mk (show MdIs w2 B b n m m1 m2 by rw [hw2]; exact H.out.drew)
 have HF2 := Aside0.mk (show Fr w w2 (mdS b m1 m2) by rw [hw2]; exact HF.out.drew)
 have HO2 := Aside0.mk (show w2.heap[w.heap.size]? = some (.cells #[.int .i64 x, .int .i64 y] 34 (0, 0)) by rw [hw2]; exact HO.out)
 clear hw2 H HF HO
 have hd := fun i => H2.out.cell i
 have hd2 := fun i => blk_cell HO2.out i
 have hlt := H2.out.lt
 have hl2 := blk_lt HO2.out
 simp only [List.take_succ_cons, List.take_zero, List.drop_succ_cons, List.drop_zero]
 repeat still_step
 refine wpStill_nil ?_
 obtain ⟨z1, hz1, hm1⟩ := H2.out.mf
 obtain ⟨kl, hkl⟩ := HK.out
 refine wpl_store ha_inj rfl _ _ _ 123 rfl hm1 lawH Try.underlying123 (by unfold maxLen; have := HN.out; omega) (y := (x, y)) hkl (val := faV (1, d)) rfl rfl rfl ?_
 intro w4 hm4 hg4
 rw [fV_upd] at hm4
 have HM4 := Aside0.mk (H2.out.putF hm4 (by split <;> omega) hg4)
 have HF4 := Aside0.mk (HF2.out.trans ((Fr.of_grown hg4).mono (fun g q => .inr (.inl (Option.some.inj q)))))
 have HO4 := Aside0.mk (blk_grown HO2.out hg4 (fun q => by obtain ⟨_, _, q2⟩ := hm1.block; exact map_ne HO2.out q2 (Option.some.inj q)))
 clear hm4 hg4 hm1 hz1 H2 HF2 HO2 hkl hd hd2 hlt hl2
 go_wp2
 refine still_tail_at' 8 (by kernel_rfl) (by kernel_rfl) fun w5 hw5 => ?_
 have H5 := Aside0.mk (show MdIs w5 B b (n + 1) _ m1 m2 by rw [hw5]; exact HM4.out.drew)
 have HF5 := Aside0.mk (show Fr w w5 (mdS b m1 m2) by rw [hw5]; exact HF4.out.drew)
 have HO5 := Aside0.mk (show w5.heap[w.heap.size]? = some (.cells #[.int .i64 x, .int .i64 y] 34 (0, 0)) by rw [hw5]; exact HO4.out)
 clear hw5 HM4 HF4 HO4
 have hd := fun i => H5.out.cell i
 have hd2 := fun i => blk_cell HO5.out i
 have hlt := H5.out.lt
 have hl2 := blk_lt HO5.out
 simp only [List.take_succ_cons, List.take_zero, List.drop_succ_cons, List.drop_zero]
 repeat still_step
 refine wpStill_nil ?_
 obtain ⟨z2, hz2, hm2⟩ := H5.out.ml
 refine wpl_store int_inj' rfl _ _ _ 95 rfl hm2 lawI Try.underlying95 (by unfold maxLen; have := HN.out; omega) (y := x) (keyOf_int_mk Try.underlying3 HX.out) (val := .int .i64 y) rfl rfl rfl ?_
 intro w6 hm6 hg6
 rw [iV_upd] at hm6
 have HM6 := Aside0.mk (H5.out.putL hm6 (by split <;> omega) hg6)
 have HF6 := Aside0.mk (HF5.out.trans ((Fr.of_grown hg6).mono (fun g q => .inr (.inr (Option.some.inj q)))))
 clear hm6 hg6 hm2 hz2 H5 HF5 HO5 hd hd2
 go_wp2
 go_end0
 exact ⟨rfl, HM6.out, HF6.out⟩
theorem start1_any {w : World} {B b n m1 m2 eb xb : Nat} {m : Md} (e : Ev) (hn : n ≤ 1000000) (hx : (Lit.int .i64 e.nn).wf = true) (hy : (Lit.int .i64 e.ng).wf = true) (h : MdIs w B b n m m1 m2) (he : w.heap[eb]? = some (.cells (evA e) 54 (0, 0))) (hxb : w.heap[xb]? = some (.cells #[pA b] 58 (0, 0))) :
  Calls Try.prog 101 #[pA xb, pA eb] w fun r w' => r = .returned (.tuple #[]) ∧ MdIs w' B b (n + 2) (m.arm e.new e.t) m1 m2 ∧ Fr w w' (mdS b m1 m2) := by
 have hu1 := Try.underlying34
 have hu2 := Try.underlying54
 have CA := Aside0.mk (arm_any e.nn e.ng e.t hn hx hy h)
 have hce := fun i => blk_cell he i
 have hcx := fun i => blk_cell hxb i
 have hle := blk_lt he
 have hlx := blk_lt hxb
 clear h he hxb hx hy hn
 go_enter Try.func101, Try.ntmps101
 go_wp2_with (go_at_call 102; (with_reducible refine CA.out.mono ?_); rintro r w2 ⟨rfl, hm, hf⟩; have HM := Aside0.mk (And.intro hm hf); clear hm hf)
 go_end0
 exact ⟨rfl, HM.out⟩
theorem rearm1_any {w : World} {B b n m1 m2 eb xb : Nat} {m : Md} (e : Ev) (hn : n + 1 ≤ 1000000) (hx : (Lit.int .i64 e.nn).wf = true) (hy : (Lit.int .i64 e.ng).wf = true) (hx' : (Lit.int .i64 e.hn).wf = true) (hy' : (Lit.int .i64 e.hg).wf = true) (h : MdIs w B b n m m1 m2) (he : w.heap[eb]? = some (.cells (evA e) 54 (0, 0))) (hxb : w.heap[xb]? = some (.cells #[pA b] 58 (0, 0))) :
  Calls Try.prog 103 #[pA xb, pA eb] w fun r w' => r = .returned (.tuple #[]) ∧ MdIs w' B b (n + 3) ((m.end_ e.h 4).arm e.new e.t) m1 m2 ∧ Fr w w' (mdS b m1 m2) := by
 have hu1 := Try.underlying34
 have hu2 := Try.underlying54
 have CE := Aside0.mk (fun W => end_any b e.hn e.hg 4 W)
 have H0 := Aside0.mk (show MdIs (((w.alloc (.cells #[pA b] 58)).alloc (.cells #[.int .i64 e.hn, .int .i64 e.hg] 34)).alloc (.cells #[.int .i64 4] 3)) B b n m m1 m2 from ((h.alloc _).alloc _).alloc _)
 have HO := Aside0.mk (show (((w.alloc (.cells #[pA b] 58)).alloc (.cells #[.int .i64 e.hn, .int .i64 e.hg] 34)).alloc (.cells #[.int .i64 4] 3)).heap[w.heap.size + 1 + 1]? = some (.cells #[.int .i64 4] 3 (0, 0)) ∧ (((w.alloc (.cells #[pA b] 58)).alloc (.cells #[.int .i64 e.hn, .int .i64 e.hg] 34)).alloc (.cells #[.int .i64 4] 3)).heap[w.heap.size]? = some (.cells #[pA b] 58 (0, 0)) ∧ (((w.alloc (.cells #[pA b] 58)).alloc (.cells #[.int .i64 e.hn, .int .i64 e.hg] 34)).alloc (.cells #[.int .i64 4] 3)).heap[w.heap.size + 1]? = some (.cells #[.int .i64 e.hn, .int .i64 e.hg] 34 (0, 0)) from
  ⟨by simpa using blk_new ((w.alloc (.cells #[pA b] 58)).alloc (.cells #[.int .i64 e.hn, .int .i64 e.hg] 34)) (.cells #[.int .i64 4] 3), blk_alloc (blk_alloc (blk_new _ _) _) _, blk_alloc (by simpa using blk_new (w.alloc (.cells #[pA b] 58)) (.cells #[.int .i64 e.hn, .int .i64 e.hg] 34)) _⟩)
 have CE1 := Aside0.mk (end1_any 4 e.hn e.hg (by omega) hx' hy' H0.out HO.out.1 HO.out.2.1 HO.out.2.2)
 have CA : Aside0 (∀ W, MdIs W B b (n + 1) (m.end_ e.h 4) m1 m2 → Calls Try.prog 102 #[pA b, .agg #[.int .i64 e.nn, .int .i64 e.ng], .int .i64 e.t] W fun r w' => r = .returned (.tuple #[]) ∧ MdIs w' B b (n + 1 + 2) ((m.end_ e.h 4).arm (e.nn, e.ng) e.t) m1 m2 ∧ Fr W w' (mdS b m1 m2)) := ⟨fun W hW => arm_any e.nn e.ng e.t hn hx hy hW⟩
 have HE := Aside0.mk he
 have HX := Aside0.mk hxb
 have HMD := Aside0.mk h
 have hce := fun i => blk_cell he i
 have hcx := fun i => blk_cell hxb i
 have hle := blk_lt he
 have hlx := blk_lt hxb
 clear h he hxb hx hy hx' hy' hn
 go_enter Try.func103, Try.ntmps103
 go_wp2_with (first
  | (go_at_call 75; (with_reducible refine (CE.out _).mono ?_); rintro r w2 ⟨rfl, rfl⟩)
  | (go_at_call 99; (with_reducible refine CE1.out.mono ?_); rintro r w3 ⟨rfl, hm, hf⟩; have HM := Aside0.mk (And.intro hm (((((Fr.refl w (mdS b m1 m2)).alloc _).alloc _).alloc _).trans hf)); have HE3 := Aside0.mk (HM.out.2.blk HE.out (fun q => by rcases q with q | q | q; exact types_ne HE.out HMD.out.blk (by decide) q; (obtain ⟨z, _, hz⟩ := HMD.out.mf; obtain ⟨_, _, hq⟩ := hz.block; exact map_ne HE.out hq q); (obtain ⟨z, _, hz⟩ := HMD.out.ml; obtain ⟨_, _, hq⟩ := hz.block; exact map_ne HE.out hq q))); have HX3 := Aside0.mk (HM.out.2.blk HX.out (fun q => by rcases q with q | q | q; exact types_ne HX.out HMD.out.blk (by decide) q; (obtain ⟨z, _, hz⟩ := HMD.out.mf; obtain ⟨_, _, hq⟩ := hz.block; exact map_ne HX.out hq q); (obtain ⟨z, _, hz⟩ := HMD.out.ml; obtain ⟨_, _, hq⟩ := hz.block; exact map_ne HX.out hq q))); clear hm hf hce hcx hle hlx; have hce := fun i => blk_cell HE3.out i; have hcx := fun i => blk_cell HX3.out i; have hle := blk_lt HE3.out; have hlx := blk_lt HX3.out)
  | (go_at_call 102; (with_reducible refine (CA.out _ HM.out.1).mono ?_); rintro r w4 ⟨rfl, hm, hf⟩; have HM4 := Aside0.mk (And.intro hm (HM.out.2.trans hf)); clear hm hf))
 go_end0
 exact ⟨rfl, HM4.out⟩
end Go.Proofs.Ythniclbmpeklmaa.Ju
end
section
namespace Go.Proofs.Ythniclbmpeklmaa.Ev
open Go.RowKit Go.Proofs.YthniclbmpeklmaaW.PrintWords Go.Proofs.YthniclbmpeklmaaW.PrintLast Go.Proofs.YthniclbmpeklmaaW.PrintMore
set_option linter.unusedVariables false
set_option linter.unusedSimpArgs false
theorem pick_yes (L : List Int) (op : Int) (b : Nat) (w : World) (hL : L.length ≤ 100) (hc : ∀ j, j < L.length → w.cell? ⟨b, j, none⟩ = some (.int .i64 (L.getD j 0))) (h1 : 1 ≤ op) (h2 : op < L.length) :
  Calls Try.prog 106 #[.slice (some ⟨b, 0, none⟩) L.length L.length, .int .i64 op] w fun e w' => e = .returned (.tuple #[.int .i64 (L.getD op.toNat 0), .bool true]) ∧ w' = w := by
 have c0 := hc op.toNat (by omega)
 have d1 : decide (op < 1) = false := by simp; omega
 have d2 : decide ((L.length : Int) ≤ op) = false := by simp; omega
 obtain ⟨x, hx⟩ : ∃ x, x = L.getD op.toNat 0 := ⟨_, rfl⟩
 rw [← hx] at c0 ⊢
 clear hc hx
 go_enter Try.func106, Try.ntmps106
 go_wp2
 go_ret2
 exact ⟨rfl, rfl⟩
theorem pick_no (L : List Int) (op : Int) (b : Nat) (w : World) (hL : L.length ≤ 100) (h : op < 1 ∨ (L.length : Int) ≤ op) :
  Calls Try.prog 106 #[.slice (some ⟨b, 0, none⟩) L.length L.length, .int .i64 op] w fun e w' => e = .returned (.tuple #[.int .i64 0, .bool false]) ∧ w' = w := by
 by_cases h1 : op < 1
 ·have d1 : decide (op < 1) = true := decide_eq_true h1
  go_enter Try.func106, Try.ntmps106
  go_wp2
  go_ret2
  exact ⟨rfl, rfl⟩
 ·have d1 : decide (op < 1) = false := decide_eq_false h1
  have d2 : decide ((L.length : Int) ≤ op) = true := by simp; omega
  clear h h1
  go_enter Try.func106, Try.ntmps106
  go_wp2
  go_ret2
  exact ⟨rfl, rfl⟩
def pickL (L : List Int) (op : Int) : Int × Bool := if op < 1 ∨ (L.length : Int) ≤ op then (0, false) else (L.getD op.toNat 0, true)
theorem cells_lit (W : World) (L : List Int) (C : Array Value) (t : TypeId) (hC : C = (L.map (Value.int .i64)).toArray) (b : Nat) (hb : b = W.heap.size) : ∀ j, j < L.length → (W.alloc (.cells C t)).cell? ⟨b, j, none⟩ = some (.int .i64 (L.getD j 0)) := by
 subst hC hb
 intro j hj
 rw [World.cell?_alloc_new]
 simp [List.getD_eq_getElem?_getD, hj]
theorem pick_any (L : List Int) (n : Nat) (hn : L.length = n) (op : Int) (b : Nat) (w : World) (hL : L.length ≤ 100) (hc : ∀ j, j < L.length → w.cell? ⟨b, j, none⟩ = some (.int .i64 (L.getD j 0))) :
  Calls Try.prog 106 #[.slice (some ⟨b, 0, none⟩) n n, .int .i64 op] w fun e w' => e = .returned (.tuple #[.int .i64 (pickL L op).1, .bool (pickL L op).2]) ∧ w' = w := by
 subst hn
 unfold pickL
 by_cases h : op < 1 ∨ (L.length : Int) ≤ op
 ·rw [if_pos h]; exact pick_no L op b w hL h
 ·rw [if_neg h]; exact pick_yes L op b w hL hc (by omega) (by omega)
def fieldsF (k wk op er : Int) : Int × Bool :=
 if k = 1 then (4, op == 0 && wk == 0)
 else if k = 4 then (21, op == 0)
 else if k = 2 then pickL [0, 28, 1, 5, 9, 0, 0, 0] op
 else if k = 3 then (if er = 0 then (pickL [0, 70, 33, 71, 65] op).1 else bits BinOp.andNot IntKind.i64 (pickL [0, 70, 33, 71, 65] op).1 6, (pickL [0, 70, 33, 71, 65] op).2)
 else if k = 5 then (if er = 0 then (pickL [0, 66, 32, 66, 64, 0, 4, 4] op).1 else bits BinOp.andNot IntKind.i64 (pickL [0, 66, 32, 66, 64, 0, 4, 4] op).1 2, (pickL [0, 66, 32, 66, 64, 0, 4, 4] op).2)
 else (0, false)
set_option maxHeartbeats 4000000 in
set_option maxRecDepth 100000 in
theorem fields_any (k wk op hn hg nn ng t a u : Int) (y : Bool) (er : Int) (w : World) :
  Calls Try.prog 92 #[.agg (evC k wk op hn hg nn ng t a u y er)] w fun e w' => e = .returned (.tuple #[.int .i64 (fieldsF k wk op er).1, .bool (fieldsF k wk op er).2]) ∧ Below w.heap.size w w' := by
 have hu := Try.underlying54
 have HB := Aside0.mk (Below.refl w.heap.size w)
 unfold fieldsF
 by_cases k1 : k = 1
 ·subst k1
  rw [if_pos rfl]
  cases ho : (op == 0)
  all_goals
   go_enter Try.func92, Try.ntmps92
   go_wp2
   go_quiet (fail)
   go_wp2
   go_ret2
   exact ⟨by simp [*], by repeat (first | exact HB.out | apply below_alloc | apply pw_below_drewN)⟩
 ·rw [if_neg k1]
  have b1 : (k == 1) = false := beq_eq_false_iff_ne.2 k1
  clear k1
  by_cases k4 : k = 4
  ·subst k4
   rw [if_pos rfl]
   go_enter Try.func92, Try.ntmps92
   go_wp2
   go_ret2
   exact ⟨by simp [*], by repeat (first | exact HB.out | apply below_alloc | apply pw_below_drewN)⟩
  ·rw [if_neg k4]
   have b4 : (k == 4) = false := beq_eq_false_iff_ne.2 k4
   clear k4
   by_cases k2 : k = 2
   ·subst k2
    rw [if_pos rfl]
    go_enter Try.func92, Try.ntmps92
    go_wp2_with (go_at_call 106; (with_reducible refine (pick_any [0, 28, 1, 5, 9, 0, 0, 0] 8 rfl _ _ _ (by decide) (cells_lit _ [0, 28, 1, 5, 9, 0, 0, 0] _ _ ?c1 _ ?c2)).mono ?_); (case c1 => rfl); (case c2 => simp); rintro e w1 ⟨rfl, rfl⟩)
    go_ret2
    exact ⟨by simp [*], by repeat (first | exact HB.out | apply below_alloc | apply pw_below_drewN)⟩
   ·rw [if_neg k2]
    have b2 : (k == 2) = false := beq_eq_false_iff_ne.2 k2
    clear k2
    by_cases k3 : k = 3
    ·subst k3
     rw [if_pos rfl]
     cases he : (er == 0)
     ·rw [if_neg (beq_eq_false_iff_ne.1 he)]
      have he2 : (er != 0) = true := by simp [bne, he]
      go_enter Try.func92, Try.ntmps92
      go_wp2_with (go_at_call 106; (with_reducible refine (pick_any [0, 70, 33, 71, 65] 5 rfl _ _ _ (by decide) (cells_lit _ [0, 70, 33, 71, 65] _ _ ?c1 _ ?c2)).mono ?_); (case c1 => rfl); (case c2 => simp); rintro e w1 ⟨rfl, rfl⟩)
      go_ret2
      exact ⟨by simp [*], by repeat (first | exact HB.out | apply below_alloc | apply pw_below_drewN)⟩
     ·rw [if_pos (beq_iff_eq.1 he)]
      have he2 : (er != 0) = false := by simp [bne, he]
      go_enter Try.func92, Try.ntmps92
      go_wp2_with (go_at_call 106; (with_reducible refine (pick_any [0, 70, 33, 71, 65] 5 rfl _ _ _ (by decide) (cells_lit _ [0, 70, 33, 71, 65] _ _ ?c1 _ ?c2)).mono ?_); (case c1 => rfl); (case c2 => simp); rintro e w1 ⟨rfl, rfl⟩)
      go_ret2
      exact ⟨by simp [*], by repeat (first | exact HB.out | apply below_alloc | apply pw_below_drewN)⟩
    ·rw [if_neg k3]
     have b3 : (k == 3) = false := beq_eq_false_iff_ne.2 k3
     clear k3
     by_cases k5 : k = 5
     ·subst k5
      rw [if_pos rfl]
      cases he : (er == 0)
      ·rw [if_neg (beq_eq_false_iff_ne.1 he)]
       have he2 : (er != 0) = true := by simp [bne, he]
       go_enter Try.func92, Try.ntmps92
       go_wp2_with (go_at_call 106; (with_reducible refine (pick_any [0, 66, 32, 66, 64, 0, 4, 4] 8 rfl _ _ _ (by decide) (cells_lit _ [0, 66, 32, 66, 64, 0, 4, 4] _ _ ?c1 _ ?c2)).mono ?_); (case c1 => rfl); (case c2 => simp); rintro e w1 ⟨rfl, rfl⟩)
       go_ret2
       exact ⟨by simp [*], by repeat (first | exact HB.out | apply below_alloc | apply pw_below_drewN)⟩
      ·rw [if_pos (beq_iff_eq.1 he)]
       have he2 : (er != 0) = false := by simp [bne, he]
       go_enter Try.func92, Try.ntmps92
       go_wp2_with (go_at_call 106; (with_reducible refine (pick_any [0, 66, 32, 66, 64, 0, 4, 4] 8 rfl _ _ _ (by decide) (cells_lit _ [0, 66, 32, 66, 64, 0, 4, 4] _ _ ?c1 _ ?c2)).mono ?_); (case c1 => rfl); (case c2 => simp); rintro e w1 ⟨rfl, rfl⟩)
       go_ret2
       exact ⟨by simp [*], by repeat (first | exact HB.out | apply below_alloc | apply pw_below_drewN)⟩
     ·rw [if_neg k5]
      have b5 : (k == 5) = false := beq_eq_false_iff_ne.2 k5
      clear k5
      go_enter Try.func92, Try.ntmps92
      go_wp2
      go_ret2
      exact ⟨by simp [*], by repeat (first | exact HB.out | apply below_alloc | apply pw_below_drewN)⟩
end Go.Proofs.Ythniclbmpeklmaa.Ev
end
section
set_option maxHeartbeats 4000000
set_option maxRecDepth 100000
namespace Go.Proofs.Ythniclbmpeklmaa.Ev
open Go.RowKit Go.Proofs.YthniclbmpeklmaaW.PrintWords Go.Proofs.YthniclbmpeklmaaW.PrintLast Go.Proofs.YthniclbmpeklmaaW.PrintMore
set_option linter.unusedVariables false
set_option linter.unusedSimpArgs false
theorem bare_0 (k wk op hn hg nn ng t a u : Int) (y : Bool) (er : Int) (w : World) :
  Calls Try.prog 94 #[.agg (evC k wk op hn hg nn ng t a u y er), .int .i64 0] w fun e w' => e = .returned (.agg (evC k wk op hn hg nn ng t a u y er)) ∧ Below w.heap.size w w' := by
 have hu := Try.underlying54
 have hu2 := Try.underlying34
 have b1 : bits BinOp.and IntKind.i64 0 1 = 0 := by decide
 have b2 : bits BinOp.and IntKind.i64 0 2 = 0 := by decide
 have b4 : bits BinOp.and IntKind.i64 0 4 = 0 := by decide
 have b8 : bits BinOp.and IntKind.i64 0 8 = 0 := by decide
 have b16 : bits BinOp.and IntKind.i64 0 16 = 0 := by decide
 have b32 : bits BinOp.and IntKind.i64 0 32 = 0 := by decide
 have b64 : bits BinOp.and IntKind.i64 0 64 = 0 := by decide
 have HB := Aside0.mk (Below.refl w.heap.size w)
 cases y
 all_goals
  go_enter Try.func94, Try.ntmps94
  go_wp2
  go_rounds 4
  refine bodyPost_ret (v := .agg (evC k wk op hn hg nn ng t a u _ er)) (by simp [results, Try.results94, go_sem]) rfl ⟨rfl, ?_⟩
  repeat (first | exact HB.out | apply below_alloc | apply pw_below_drewN | refine Below.setCell ?_ (by simp) _)
theorem bare_1 (k wk op hn hg nn ng t a u : Int) (y : Bool) (er : Int) (w : World) :
  Calls Try.prog 94 #[.agg (evC k wk op hn hg nn ng t a u y er), .int .i64 1] w fun e w' => e = .returned (.agg (evC k wk op 0 0 nn ng t a u y er)) ∧ Below w.heap.size w w' := by
 have hu := Try.underlying54
 have hu2 := Try.underlying34
 have b1 : bits BinOp.and IntKind.i64 1 1 = 1 := by decide
 have b2 : bits BinOp.and IntKind.i64 1 2 = 0 := by decide
 have b4 : bits BinOp.and IntKind.i64 1 4 = 0 := by decide
 have b8 : bits BinOp.and IntKind.i64 1 8 = 0 := by decide
 have b16 : bits BinOp.and IntKind.i64 1 16 = 0 := by decide
 have b32 : bits BinOp.and IntKind.i64 1 32 = 0 := by decide
 have b64 : bits BinOp.and IntKind.i64 1 64 = 0 := by decide
 have HB := Aside0.mk (Below.refl w.heap.size w)
 cases y
 all_goals
  go_enter Try.func94, Try.ntmps94
  go_wp2
  go_rounds 4
  refine bodyPost_ret (v := .agg (evC k wk op 0 0 nn ng t a u _ er)) (by simp [results, Try.results94, go_sem]) rfl ⟨rfl, ?_⟩
  repeat (first | exact HB.out | apply below_alloc | apply pw_below_drewN | refine Below.setCell ?_ (by simp) _)
theorem bare_4 (k wk op hn hg nn ng t a u : Int) (y : Bool) (er : Int) (w : World) :
  Calls Try.prog 94 #[.agg (evC k wk op hn hg nn ng t a u y er), .int .i64 4] w fun e w' => e = .returned (.agg (evC k wk op hn hg nn ng 0 a u y er)) ∧ Below w.heap.size w w' := by
 have hu := Try.underlying54
 have hu2 := Try.underlying34
 have b1 : bits BinOp.and IntKind.i64 4 1 = 0 := by decide
 have b2 : bits BinOp.and IntKind.i64 4 2 = 0 := by decide
 have b4 : bits BinOp.and IntKind.i64 4 4 = 4 := by decide
 have b8 : bits BinOp.and IntKind.i64 4 8 = 0 := by decide
 have b16 : bits BinOp.and IntKind.i64 4 16 = 0 := by decide
 have b32 : bits BinOp.and IntKind.i64 4 32 = 0 := by decide
 have b64 : bits BinOp.and IntKind.i64 4 64 = 0 := by decide
 have HB := Aside0.mk (Below.refl w.heap.size w)
 cases y
 all_goals
  go_enter Try.func94, Try.ntmps94
  go_wp2
  go_rounds 4
  refine bodyPost_ret (v := .agg (evC k wk op hn hg nn ng 0 a u _ er)) (by simp [results, Try.results94, go_sem]) rfl ⟨rfl, ?_⟩
  repeat (first | exact HB.out | apply below_alloc | apply pw_below_drewN | refine Below.setCell ?_ (by simp) _)
theorem bare_5 (k wk op hn hg nn ng t a u : Int) (y : Bool) (er : Int) (w : World) :
  Calls Try.prog 94 #[.agg (evC k wk op hn hg nn ng t a u y er), .int .i64 5] w fun e w' => e = .returned (.agg (evC k wk op 0 0 nn ng 0 a u y er)) ∧ Below w.heap.size w w' := by
 have hu := Try.underlying54
 have hu2 := Try.underlying34
 have b1 : bits BinOp.and IntKind.i64 5 1 = 1 := by decide
 have b2 : bits BinOp.and IntKind.i64 5 2 = 0 := by decide
 have b4 : bits BinOp.and IntKind.i64 5 4 = 4 := by decide
 have b8 : bits BinOp.and IntKind.i64 5 8 = 0 := by decide
 have b16 : bits BinOp.and IntKind.i64 5 16 = 0 := by decide
 have b32 : bits BinOp.and IntKind.i64 5 32 = 0 := by decide
 have b64 : bits BinOp.and IntKind.i64 5 64 = 0 := by decide
 have HB := Aside0.mk (Below.refl w.heap.size w)
 cases y
 all_goals
  go_enter Try.func94, Try.ntmps94
  go_wp2
  go_rounds 4
  refine bodyPost_ret (v := .agg (evC k wk op 0 0 nn ng 0 a u _ er)) (by simp [results, Try.results94, go_sem]) rfl ⟨rfl, ?_⟩
  repeat (first | exact HB.out | apply below_alloc | apply pw_below_drewN | refine Below.setCell ?_ (by simp) _)
theorem bare_9 (k wk op hn hg nn ng t a u : Int) (y : Bool) (er : Int) (w : World) :
  Calls Try.prog 94 #[.agg (evC k wk op hn hg nn ng t a u y er), .int .i64 9] w fun e w' => e = .returned (.agg (evC k wk op 0 0 nn ng t 0 u y er)) ∧ Below w.heap.size w w' := by
 have hu := Try.underlying54
 have hu2 := Try.underlying34
 have b1 : bits BinOp.and IntKind.i64 9 1 = 1 := by decide
 have b2 : bits BinOp.and IntKind.i64 9 2 = 0 := by decide
 have b4 : bits BinOp.and IntKind.i64 9 4 = 0 := by decide
 have b8 : bits BinOp.and IntKind.i64 9 8 = 8 := by decide
 have b16 : bits BinOp.and IntKind.i64 9 16 = 0 := by decide
 have b32 : bits BinOp.and IntKind.i64 9 32 = 0 := by decide
 have b64 : bits BinOp.and IntKind.i64 9 64 = 0 := by decide
 have HB := Aside0.mk (Below.refl w.heap.size w)
 cases y
 all_goals
  go_enter Try.func94, Try.ntmps94
  go_wp2
  go_rounds 4
  refine bodyPost_ret (v := .agg (evC k wk op 0 0 nn ng t 0 u _ er)) (by simp [results, Try.results94, go_sem]) rfl ⟨rfl, ?_⟩
  repeat (first | exact HB.out | apply below_alloc | apply pw_below_drewN | refine Below.setCell ?_ (by simp) _)
theorem bare_21 (k wk op hn hg nn ng t a u : Int) (y : Bool) (er : Int) (w : World) :
  Calls Try.prog 94 #[.agg (evC k wk op hn hg nn ng t a u y er), .int .i64 21] w fun e w' => e = .returned (.agg (evC k wk op 0 0 nn ng 0 a 0 y er)) ∧ Below w.heap.size w w' := by
 have hu := Try.underlying54
 have hu2 := Try.underlying34
 have b1 : bits BinOp.and IntKind.i64 21 1 = 1 := by decide
 have b2 : bits BinOp.and IntKind.i64 21 2 = 0 := by decide
 have b4 : bits BinOp.and IntKind.i64 21 4 = 4 := by decide
 have b8 : bits BinOp.and IntKind.i64 21 8 = 0 := by decide
 have b16 : bits BinOp.and IntKind.i64 21 16 = 16 := by decide
 have b32 : bits BinOp.and IntKind.i64 21 32 = 0 := by decide
 have b64 : bits BinOp.and IntKind.i64 21 64 = 0 := by decide
 have HB := Aside0.mk (Below.refl w.heap.size w)
 cases y
 all_goals
  go_enter Try.func94, Try.ntmps94
  go_wp2
  go_rounds 4
  refine bodyPost_ret (v := .agg (evC k wk op 0 0 nn ng 0 a 0 _ er)) (by simp [results, Try.results94, go_sem]) rfl ⟨rfl, ?_⟩
  repeat (first | exact HB.out | apply below_alloc | apply pw_below_drewN | refine Below.setCell ?_ (by simp) _)
theorem bare_28 (k wk op hn hg nn ng t a u : Int) (y : Bool) (er : Int) (w : World) :
  Calls Try.prog 94 #[.agg (evC k wk op hn hg nn ng t a u y er), .int .i64 28] w fun e w' => e = .returned (.agg (evC k wk op hn hg nn ng 0 0 0 y er)) ∧ Below w.heap.size w w' := by
 have hu := Try.underlying54
 have hu2 := Try.underlying34
 have b1 : bits BinOp.and IntKind.i64 28 1 = 0 := by decide
 have b2 : bits BinOp.and IntKind.i64 28 2 = 0 := by decide
 have b4 : bits BinOp.and IntKind.i64 28 4 = 4 := by decide
 have b8 : bits BinOp.and IntKind.i64 28 8 = 8 := by decide
 have b16 : bits BinOp.and IntKind.i64 28 16 = 16 := by decide
 have b32 : bits BinOp.and IntKind.i64 28 32 = 0 := by decide
 have b64 : bits BinOp.and IntKind.i64 28 64 = 0 := by decide
 have HB := Aside0.mk (Below.refl w.heap.size w)
 cases y
 all_goals
  go_enter Try.func94, Try.ntmps94
  go_wp2
  go_rounds 4
  refine bodyPost_ret (v := .agg (evC k wk op hn hg nn ng 0 0 0 _ er)) (by simp [results, Try.results94, go_sem]) rfl ⟨rfl, ?_⟩
  repeat (first | exact HB.out | apply below_alloc | apply pw_below_drewN | refine Below.setCell ?_ (by simp) _)
theorem bare_32 (k wk op hn hg nn ng t a u : Int) (y : Bool) (er : Int) (w : World) :
  Calls Try.prog 94 #[.agg (evC k wk op hn hg nn ng t a u y er), .int .i64 32] w fun e w' => e = .returned (.agg (evC k wk op hn hg nn ng t a u false er)) ∧ Below w.heap.size w w' := by
 have hu := Try.underlying54
 have hu2 := Try.underlying34
 have b1 : bits BinOp.and IntKind.i64 32 1 = 0 := by decide
 have b2 : bits BinOp.and IntKind.i64 32 2 = 0 := by decide
 have b4 : bits BinOp.and IntKind.i64 32 4 = 0 := by decide
 have b8 : bits BinOp.and IntKind.i64 32 8 = 0 := by decide
 have b16 : bits BinOp.and IntKind.i64 32 16 = 0 := by decide
 have b32 : bits BinOp.and IntKind.i64 32 32 = 32 := by decide
 have b64 : bits BinOp.and IntKind.i64 32 64 = 0 := by decide
 have HB := Aside0.mk (Below.refl w.heap.size w)
 cases y
 all_goals
  go_enter Try.func94, Try.ntmps94
  go_wp2
  go_rounds 4
  refine bodyPost_ret (v := .agg (evC k wk op hn hg nn ng t a u _ er)) (by simp [results, Try.results94, go_sem]) rfl ⟨rfl, ?_⟩
  repeat (first | exact HB.out | apply below_alloc | apply pw_below_drewN | refine Below.setCell ?_ (by simp) _)
theorem bare_33 (k wk op hn hg nn ng t a u : Int) (y : Bool) (er : Int) (w : World) :
  Calls Try.prog 94 #[.agg (evC k wk op hn hg nn ng t a u y er), .int .i64 33] w fun e w' => e = .returned (.agg (evC k wk op 0 0 nn ng t a u false er)) ∧ Below w.heap.size w w' := by
 have hu := Try.underlying54
 have hu2 := Try.underlying34
 have b1 : bits BinOp.and IntKind.i64 33 1 = 1 := by decide
 have b2 : bits BinOp.and IntKind.i64 33 2 = 0 := by decide
 have b4 : bits BinOp.and IntKind.i64 33 4 = 0 := by decide
 have b8 : bits BinOp.and IntKind.i64 33 8 = 0 := by decide
 have b16 : bits BinOp.and IntKind.i64 33 16 = 0 := by decide
 have b32 : bits BinOp.and IntKind.i64 33 32 = 32 := by decide
 have b64 : bits BinOp.and IntKind.i64 33 64 = 0 := by decide
 have HB := Aside0.mk (Below.refl w.heap.size w)
 cases y
 all_goals
  go_enter Try.func94, Try.ntmps94
  go_wp2
  go_rounds 4
  refine bodyPost_ret (v := .agg (evC k wk op 0 0 nn ng t a u _ er)) (by simp [results, Try.results94, go_sem]) rfl ⟨rfl, ?_⟩
  repeat (first | exact HB.out | apply below_alloc | apply pw_below_drewN | refine Below.setCell ?_ (by simp) _)
theorem bare_64 (k wk op hn hg nn ng t a u : Int) (y : Bool) (er : Int) (w : World) :
  Calls Try.prog 94 #[.agg (evC k wk op hn hg nn ng t a u y er), .int .i64 64] w fun e w' => e = .returned (.agg (evC k wk op hn hg nn ng t a u y 0)) ∧ Below w.heap.size w w' := by
 have hu := Try.underlying54
 have hu2 := Try.underlying34
 have b1 : bits BinOp.and IntKind.i64 64 1 = 0 := by decide
 have b2 : bits BinOp.and IntKind.i64 64 2 = 0 := by decide
 have b4 : bits BinOp.and IntKind.i64 64 4 = 0 := by decide
 have b8 : bits BinOp.and IntKind.i64 64 8 = 0 := by decide
 have b16 : bits BinOp.and IntKind.i64 64 16 = 0 := by decide
 have b32 : bits BinOp.and IntKind.i64 64 32 = 0 := by decide
 have b64 : bits BinOp.and IntKind.i64 64 64 = 64 := by decide
 have HB := Aside0.mk (Below.refl w.heap.size w)
 cases y
 all_goals
  go_enter Try.func94, Try.ntmps94
  go_wp2
  go_rounds 4
  refine bodyPost_ret (v := .agg (evC k wk op hn hg nn ng t a u _ 0)) (by simp [results, Try.results94, go_sem]) rfl ⟨rfl, ?_⟩
  repeat (first | exact HB.out | apply below_alloc | apply pw_below_drewN | refine Below.setCell ?_ (by simp) _)
theorem bare_65 (k wk op hn hg nn ng t a u : Int) (y : Bool) (er : Int) (w : World) :
  Calls Try.prog 94 #[.agg (evC k wk op hn hg nn ng t a u y er), .int .i64 65] w fun e w' => e = .returned (.agg (evC k wk op 0 0 nn ng t a u y 0)) ∧ Below w.heap.size w w' := by
 have hu := Try.underlying54
 have hu2 := Try.underlying34
 have b1 : bits BinOp.and IntKind.i64 65 1 = 1 := by decide
 have b2 : bits BinOp.and IntKind.i64 65 2 = 0 := by decide
 have b4 : bits BinOp.and IntKind.i64 65 4 = 0 := by decide
 have b8 : bits BinOp.and IntKind.i64 65 8 = 0 := by decide
 have b16 : bits BinOp.and IntKind.i64 65 16 = 0 := by decide
 have b32 : bits BinOp.and IntKind.i64 65 32 = 0 := by decide
 have b64 : bits BinOp.and IntKind.i64 65 64 = 64 := by decide
 have HB := Aside0.mk (Below.refl w.heap.size w)
 cases y
 all_goals
  go_enter Try.func94, Try.ntmps94
  go_wp2
  go_rounds 4
  refine bodyPost_ret (v := .agg (evC k wk op 0 0 nn ng t a u _ 0)) (by simp [results, Try.results94, go_sem]) rfl ⟨rfl, ?_⟩
  repeat (first | exact HB.out | apply below_alloc | apply pw_below_drewN | refine Below.setCell ?_ (by simp) _)
theorem bare_66 (k wk op hn hg nn ng t a u : Int) (y : Bool) (er : Int) (w : World) :
  Calls Try.prog 94 #[.agg (evC k wk op hn hg nn ng t a u y er), .int .i64 66] w fun e w' => e = .returned (.agg (evC k wk op hn hg 0 0 t a u y 0)) ∧ Below w.heap.size w w' := by
 have hu := Try.underlying54
 have hu2 := Try.underlying34
 have b1 : bits BinOp.and IntKind.i64 66 1 = 0 := by decide
 have b2 : bits BinOp.and IntKind.i64 66 2 = 2 := by decide
 have b4 : bits BinOp.and IntKind.i64 66 4 = 0 := by decide
 have b8 : bits BinOp.and IntKind.i64 66 8 = 0 := by decide
 have b16 : bits BinOp.and IntKind.i64 66 16 = 0 := by decide
 have b32 : bits BinOp.and IntKind.i64 66 32 = 0 := by decide
 have b64 : bits BinOp.and IntKind.i64 66 64 = 64 := by decide
 have HB := Aside0.mk (Below.refl w.heap.size w)
 cases y
 all_goals
  go_enter Try.func94, Try.ntmps94
  go_wp2
  go_rounds 4
  refine bodyPost_ret (v := .agg (evC k wk op hn hg 0 0 t a u _ 0)) (by simp [results, Try.results94, go_sem]) rfl ⟨rfl, ?_⟩
  repeat (first | exact HB.out | apply below_alloc | apply pw_below_drewN | refine Below.setCell ?_ (by simp) _)
theorem bare_70 (k wk op hn hg nn ng t a u : Int) (y : Bool) (er : Int) (w : World) :
  Calls Try.prog 94 #[.agg (evC k wk op hn hg nn ng t a u y er), .int .i64 70] w fun e w' => e = .returned (.agg (evC k wk op hn hg 0 0 0 a u y 0)) ∧ Below w.heap.size w w' := by
 have hu := Try.underlying54
 have hu2 := Try.underlying34
 have b1 : bits BinOp.and IntKind.i64 70 1 = 0 := by decide
 have b2 : bits BinOp.and IntKind.i64 70 2 = 2 := by decide
 have b4 : bits BinOp.and IntKind.i64 70 4 = 4 := by decide
 have b8 : bits BinOp.and IntKind.i64 70 8 = 0 := by decide
 have b16 : bits BinOp.and IntKind.i64 70 16 = 0 := by decide
 have b32 : bits BinOp.and IntKind.i64 70 32 = 0 := by decide
 have b64 : bits BinOp.and IntKind.i64 70 64 = 64 := by decide
 have HB := Aside0.mk (Below.refl w.heap.size w)
 cases y
 all_goals
  go_enter Try.func94, Try.ntmps94
  go_wp2
  go_rounds 4
  refine bodyPost_ret (v := .agg (evC k wk op hn hg 0 0 0 a u _ 0)) (by simp [results, Try.results94, go_sem]) rfl ⟨rfl, ?_⟩
  repeat (first | exact HB.out | apply below_alloc | apply pw_below_drewN | refine Below.setCell ?_ (by simp) _)
theorem bare_71 (k wk op hn hg nn ng t a u : Int) (y : Bool) (er : Int) (w : World) :
  Calls Try.prog 94 #[.agg (evC k wk op hn hg nn ng t a u y er), .int .i64 71] w fun e w' => e = .returned (.agg (evC k wk op 0 0 0 0 0 a u y 0)) ∧ Below w.heap.size w w' := by
 have hu := Try.underlying54
 have hu2 := Try.underlying34
 have b1 : bits BinOp.and IntKind.i64 71 1 = 1 := by decide
 have b2 : bits BinOp.and IntKind.i64 71 2 = 2 := by decide
 have b4 : bits BinOp.and IntKind.i64 71 4 = 4 := by decide
 have b8 : bits BinOp.and IntKind.i64 71 8 = 0 := by decide
 have b16 : bits BinOp.and IntKind.i64 71 16 = 0 := by decide
 have b32 : bits BinOp.and IntKind.i64 71 32 = 0 := by decide
 have b64 : bits BinOp.and IntKind.i64 71 64 = 64 := by decide
 have HB := Aside0.mk (Below.refl w.heap.size w)
 cases y
 all_goals
  go_enter Try.func94, Try.ntmps94
  go_wp2
  go_rounds 4
  refine bodyPost_ret (v := .agg (evC k wk op 0 0 0 0 0 a u _ 0)) (by simp [results, Try.results94, go_sem]) rfl ⟨rfl, ?_⟩
  repeat (first | exact HB.out | apply below_alloc | apply pw_below_drewN | refine Below.setCell ?_ (by simp) _)
end Go.Proofs.Ythniclbmpeklmaa.Ev
end
section
namespace Go.Proofs.Ythniclbmpeklmaa.Ev
open Go.RowKit Go.Proofs.YthniclbmpeklmaaW.PrintWords Go.Proofs.YthniclbmpeklmaaW.PrintLast Go.Proofs.YthniclbmpeklmaaW.PrintMore
attribute [local go_sem] max2_int min2_int max_two min_two max_three min_three max_four min_four
set_option linter.unusedVariables false
set_option linter.unusedSimpArgs false
def countedB (k hn hg nn ng t a u : Int) : Bool :=
 (k == 3 || (decide (0 ≤ hn) && decide (0 ≤ hg))) && (decide (0 ≤ nn) && decide (0 ≤ ng) && decide (0 ≤ a) && decide (0 ≤ u) && (if k = 5 then decide (-1 ≤ t) else decide (0 ≤ t)))
theorem counted_eq (k hn hg nn ng t a u m m1 m2 m3 : Int) (e : (if hg < hn then hg else hn) = m) (e1 : (if ng < nn then ng else nn) = m1) (e2 : (if a < m1 then a else m1) = m2) (e3 : (if u < m2 then u else m2) = m3) :
  countedB k hn hg nn ng t a u = ((k == 3 || decide (0 ≤ m)) && (decide (0 ≤ m3) && (if k = 5 then decide (-1 ≤ t) else decide (0 ≤ t)))) := by
 have h1 : decide (0 ≤ m) = (decide (0 ≤ hn) && decide (0 ≤ hg)) := by
  rw [Bool.eq_iff_iff]
  simp
  split at e <;> omega
 have h3 : decide (0 ≤ m3) = (decide (0 ≤ nn) && decide (0 ≤ ng) && decide (0 ≤ a) && decide (0 ≤ u)) := by
  rw [Bool.eq_iff_iff]
  simp
  split at e1 <;> split at e2 <;> split at e3 <;> omega
 rw [h1, h3, countedB]
set_option maxHeartbeats 4000000 in
set_option maxRecDepth 100000 in
theorem counted_any (k wk op hn hg nn ng t a u : Int) (y : Bool) (er : Int) (w : World) :
  Calls Try.prog 93 #[.agg (evC k wk op hn hg nn ng t a u y er)] w fun e w' => e = .returned (.bool (countedB k hn hg nn ng t a u)) ∧ Below w.heap.size w w' := by
 have hu := Try.underlying54
 have HB := Aside0.mk (Below.refl w.heap.size w)
 obtain ⟨m, e⟩ : ∃ m, (if hg < hn then hg else hn) = m := ⟨_, rfl⟩
 obtain ⟨m1, e1⟩ : ∃ m, (if ng < nn then ng else nn) = m := ⟨_, rfl⟩
 obtain ⟨m2, e2⟩ : ∃ m, (if a < m1 then a else m1) = m := ⟨_, rfl⟩
 obtain ⟨m3, e3⟩ : ∃ m, (if u < m2 then u else m2) = m := ⟨_, rfl⟩
 rw [counted_eq k hn hg nn ng t a u m m1 m2 m3 e e1 e2 e3]
 by_cases k3 : k = 3
 ·subst k3
  go_enter Try.func93, Try.ntmps93
  go_wp2
  all_goals
   go_ret
   exact ⟨by simp [*] <;> omega, by repeat (first | exact HB.out | apply below_alloc | apply pw_below_drewN)⟩
 ·have b3 : (k != 3) = true := bne_iff_ne.2 k3
  have b3' : (k == 3) = false := beq_eq_false_iff_ne.2 k3
  by_cases k5 : k = 5
  ·subst k5
   clear k3
   go_enter Try.func93, Try.ntmps93
   go_wp2
   all_goals
    go_ret
    exact ⟨by simp [*] <;> omega, by repeat (first | exact HB.out | apply below_alloc | apply pw_below_drewN)⟩
  ·have b5 : (k == 5) = false := beq_eq_false_iff_ne.2 k5
   rw [if_neg k5]
   clear k3 k5
   go_enter Try.func93, Try.ntmps93
   go_wp2
   all_goals
    go_ret
    exact ⟨by simp [*] <;> omega, by repeat (first | exact HB.out | apply below_alloc | apply pw_below_drewN)⟩
end Go.Proofs.Ythniclbmpeklmaa.Ev
end
section
namespace Go.Proofs.Ythniclbmpeklmaa.Ev
open Go.RowKit Go.Proofs.YthniclbmpeklmaaW.PrintWords Go.Proofs.YthniclbmpeklmaaW.PrintLast Go.Proofs.YthniclbmpeklmaaW.PrintMore
set_option linter.unusedVariables false
set_option linter.unusedSimpArgs false
def zb (f b x : Int) : Int := if bits BinOp.and IntKind.i64 f b = 0 then x else 0
def zy (f : Int) (y : Bool) : Bool := y && bits BinOp.and IntKind.i64 f 32 == 0
def fset : List Int := [0, 1, 4, 5, 9, 21, 28, 32, 33, 64, 65, 66, 70, 71]
theorem bare_any (k wk op hn hg nn ng t a u : Int) (y : Bool) (er : Int) (f : Int) (hf : f ∈ fset) (w : World) :
  Calls Try.prog 94 #[.agg (evC k wk op hn hg nn ng t a u y er), .int .i64 f] w fun e w' => e = .returned (.agg (evC k wk op (zb f 1 hn) (zb f 1 hg) (zb f 2 nn) (zb f 2 ng) (zb f 4 t) (zb f 8 a) (zb f 16 u) (zy f y) (zb f 64 er))) ∧ Below w.heap.size w w' := by
 simp only [fset, List.mem_cons, List.not_mem_nil, or_false] at hf
 rcases hf with rfl | rfl | rfl | rfl | rfl | rfl | rfl | rfl | rfl | rfl | rfl | rfl | rfl | rfl
 ·simpa only [zb, zy, show bits BinOp.and IntKind.i64 0 1 = 0 from by decide, show bits BinOp.and IntKind.i64 0 2 = 0 from by decide, show bits BinOp.and IntKind.i64 0 4 = 0 from by decide, show bits BinOp.and IntKind.i64 0 8 = 0 from by decide, show bits BinOp.and IntKind.i64 0 16 = 0 from by decide, show bits BinOp.and IntKind.i64 0 32 = 0 from by decide, show bits BinOp.and IntKind.i64 0 64 = 0 from by decide, if_true, show ¬ ((1 : Int) = 0) from by decide, show ¬ ((2 : Int) = 0) from by decide, show ¬ ((4 : Int) = 0) from by decide, show ¬ ((8 : Int) = 0) from by decide, show ¬ ((16 : Int) = 0) from by decide, show ¬ ((64 : Int) = 0) from by decide, if_false, show ((32 : Int) == 0) = false from by decide, show ((0 : Int) == 0) = true from by decide, Bool.and_true, Bool.and_false] using bare_0 k wk op hn hg nn ng t a u y er w
 ·simpa only [zb, zy, show bits BinOp.and IntKind.i64 1 1 = 1 from by decide, show bits BinOp.and IntKind.i64 1 2 = 0 from by decide, show bits BinOp.and IntKind.i64 1 4 = 0 from by decide, show bits BinOp.and IntKind.i64 1 8 = 0 from by decide, show bits BinOp.and IntKind.i64 1 16 = 0 from by decide, show bits BinOp.and IntKind.i64 1 32 = 0 from by decide, show bits BinOp.and IntKind.i64 1 64 = 0 from by decide, if_true, show ¬ ((1 : Int) = 0) from by decide, show ¬ ((2 : Int) = 0) from by decide, show ¬ ((4 : Int) = 0) from by decide, show ¬ ((8 : Int) = 0) from by decide, show ¬ ((16 : Int) = 0) from by decide, show ¬ ((64 : Int) = 0) from by decide, if_false, show ((32 : Int) == 0) = false from by decide, show ((0 : Int) == 0) = true from by decide, Bool.and_true, Bool.and_false] using bare_1 k wk op hn hg nn ng t a u y er w
 ·simpa only [zb, zy, show bits BinOp.and IntKind.i64 4 1 = 0 from by decide, show bits BinOp.and IntKind.i64 4 2 = 0 from by decide, show bits BinOp.and IntKind.i64 4 4 = 4 from by decide, show bits BinOp.and IntKind.i64 4 8 = 0 from by decide, show bits BinOp.and IntKind.i64 4 16 = 0 from by decide, show bits BinOp.and IntKind.i64 4 32 = 0 from by decide, show bits BinOp.and IntKind.i64 4 64 = 0 from by decide, if_true, show ¬ ((1 : Int) = 0) from by decide, show ¬ ((2 : Int) = 0) from by decide, show ¬ ((4 : Int) = 0) from by decide, show ¬ ((8 : Int) = 0) from by decide, show ¬ ((16 : Int) = 0) from by decide, show ¬ ((64 : Int) = 0) from by decide, if_false, show ((32 : Int) == 0) = false from by decide, show ((0 : Int) == 0) = true from by decide, Bool.and_true, Bool.and_false] using bare_4 k wk op hn hg nn ng t a u y er w
 ·simpa only [zb, zy, show bits BinOp.and IntKind.i64 5 1 = 1 from by decide, show bits BinOp.and IntKind.i64 5 2 = 0 from by decide, show bits BinOp.and IntKind.i64 5 4 = 4 from by decide, show bits BinOp.and IntKind.i64 5 8 = 0 from by decide, show bits BinOp.and IntKind.i64 5 16 = 0 from by decide, show bits BinOp.and IntKind.i64 5 32 = 0 from by decide, show bits BinOp.and IntKind.i64 5 64 = 0 from by decide, if_true, show ¬ ((1 : Int) = 0) from by decide, show ¬ ((2 : Int) = 0) from by decide, show ¬ ((4 : Int) = 0) from by decide, show ¬ ((8 : Int) = 0) from by decide, show ¬ ((16 : Int) = 0) from by decide, show ¬ ((64 : Int) = 0) from by decide, if_false, show ((32 : Int) == 0) = false from by decide, show ((0 : Int) == 0) = true from by decide, Bool.and_true, Bool.and_false] using bare_5 k wk op hn hg nn ng t a u y er w
 ·simpa only [zb, zy, show bits BinOp.and IntKind.i64 9 1 = 1 from by decide, show bits BinOp.and IntKind.i64 9 2 = 0 from by decide, show bits BinOp.and IntKind.i64 9 4 = 0 from by decide, show bits BinOp.and IntKind.i64 9 8 = 8 from by decide, show bits BinOp.and IntKind.i64 9 16 = 0 from by decide, show bits BinOp.and IntKind.i64 9 32 = 0 from by decide, show bits BinOp.and IntKind.i64 9 64 = 0 from by decide, if_true, show ¬ ((1 : Int) = 0) from by decide, show ¬ ((2 : Int) = 0) from by decide, show ¬ ((4 : Int) = 0) from by decide, show ¬ ((8 : Int) = 0) from by decide, show ¬ ((16 : Int) = 0) from by decide, show ¬ ((64 : Int) = 0) from by decide, if_false, show ((32 : Int) == 0) = false from by decide, show ((0 : Int) == 0) = true from by decide, Bool.and_true, Bool.and_false] using bare_9 k wk op hn hg nn ng t a u y er w
 ·simpa only [zb, zy, show bits BinOp.and IntKind.i64 21 1 = 1 from by decide, show bits BinOp.and IntKind.i64 21 2 = 0 from by decide, show bits BinOp.and IntKind.i64 21 4 = 4 from by decide, show bits BinOp.and IntKind.i64 21 8 = 0 from by decide, show bits BinOp.and IntKind.i64 21 16 = 16 from by decide, show bits BinOp.and IntKind.i64 21 32 = 0 from by decide, show bits BinOp.and IntKind.i64 21 64 = 0 from by decide, if_true, show ¬ ((1 : Int) = 0) from by decide, show ¬ ((2 : Int) = 0) from by decide, show ¬ ((4 : Int) = 0) from by decide, show ¬ ((8 : Int) = 0) from by decide, show ¬ ((16 : Int) = 0) from by decide, show ¬ ((64 : Int) = 0) from by decide, if_false, show ((32 : Int) == 0) = false from by decide, show ((0 : Int) == 0) = true from by decide, Bool.and_true, Bool.and_false] using bare_21 k wk op hn hg nn ng t a u y er w
 ·simpa only [zb, zy, show bits BinOp.and IntKind.i64 28 1 = 0 from by decide, show bits BinOp.and IntKind.i64 28 2 = 0 from by decide, show bits BinOp.and IntKind.i64 28 4 = 4 from by decide, show bits BinOp.and IntKind.i64 28 8 = 8 from by decide, show bits BinOp.and IntKind.i64 28 16 = 16 from by decide, show bits BinOp.and IntKind.i64 28 32 = 0 from by decide, show bits BinOp.and IntKind.i64 28 64 = 0 from by decide, if_true, show ¬ ((1 : Int) = 0) from by decide, show ¬ ((2 : Int) = 0) from by decide, show ¬ ((4 : Int) = 0) from by decide, show ¬ ((8 : Int) = 0) from by decide, show ¬ ((16 : Int) = 0) from by decide, show ¬ ((64 : Int) = 0) from by decide, if_false, show ((32 : Int) == 0) = false from by decide, show ((0 : Int) == 0) = true from by decide, Bool.and_true, Bool.and_false] using bare_28 k wk op hn hg nn ng t a u y er w
 ·simpa only [zb, zy, show bits BinOp.and IntKind.i64 32 1 = 0 from by decide, show bits BinOp.and IntKind.i64 32 2 = 0 from by decide, show bits BinOp.and IntKind.i64 32 4 = 0 from by decide, show bits BinOp.and IntKind.i64 32 8 = 0 from by decide, show bits BinOp.and IntKind.i64 32 16 = 0 from by decide, show bits BinOp.and IntKind.i64 32 32 = 32 from by decide, show bits BinOp.and IntKind.i64 32 64 = 0 from by decide, if_true, show ¬ ((1 : Int) = 0) from by decide, show ¬ ((2 : Int) = 0) from by decide, show ¬ ((4 : Int) = 0) from by decide, show ¬ ((8 : Int) = 0) from by decide, show ¬ ((16 : Int) = 0) from by decide, show ¬ ((64 : Int) = 0) from by decide, if_false, show ((32 : Int) == 0) = false from by decide, show ((0 : Int) == 0) = true from by decide, Bool.and_true, Bool.and_false] using bare_32 k wk op hn hg nn ng t a u y er w
 ·simpa only [zb, zy, show bits BinOp.and IntKind.i64 33 1 = 1 from by decide, show bits BinOp.and IntKind.i64 33 2 = 0 from by decide, show bits BinOp.and IntKind.i64 33 4 = 0 from by decide, show bits BinOp.and IntKind.i64 33 8 = 0 from by decide, show bits BinOp.and IntKind.i64 33 16 = 0 from by decide, show bits BinOp.and IntKind.i64 33 32 = 32 from by decide, show bits BinOp.and IntKind.i64 33 64 = 0 from by decide, if_true, show ¬ ((1 : Int) = 0) from by decide, show ¬ ((2 : Int) = 0) from by decide, show ¬ ((4 : Int) = 0) from by decide, show ¬ ((8 : Int) = 0) from by decide, show ¬ ((16 : Int) = 0) from by decide, show ¬ ((64 : Int) = 0) from by decide, if_false, show ((32 : Int) == 0) = false from by decide, show ((0 : Int) == 0) = true from by decide, Bool.and_true, Bool.and_false] using bare_33 k wk op hn hg nn ng t a u y er w
 ·simpa only [zb, zy, show bits BinOp.and IntKind.i64 64 1 = 0 from by decide, show bits BinOp.and IntKind.i64 64 2 = 0 from by decide, show bits BinOp.and IntKind.i64 64 4 = 0 from by decide, show bits BinOp.and IntKind.i64 64 8 = 0 from by decide, show bits BinOp.and IntKind.i64 64 16 = 0 from by decide, show bits BinOp.and IntKind.i64 64 32 = 0 from by decide, show bits BinOp.and IntKind.i64 64 64 = 64 from by decide, if_true, show ¬ ((1 : Int) = 0) from by decide, show ¬ ((2 : Int) = 0) from by decide, show ¬ ((4 : Int) = 0) from by decide, show ¬ ((8 : Int) = 0) from by decide, show ¬ ((16 : Int) = 0) from by decide, show ¬ ((64 : Int) = 0) from by decide, if_false, show ((32 : Int) == 0) = false from by decide, show ((0 : Int) == 0) = true from by decide, Bool.and_true, Bool.and_false] using bare_64 k wk op hn hg nn ng t a u y er w
 ·simpa only [zb, zy, show bits BinOp.and IntKind.i64 65 1 = 1 from by decide, show bits BinOp.and IntKind.i64 65 2 = 0 from by decide, show bits BinOp.and IntKind.i64 65 4 = 0 from by decide, show bits BinOp.and IntKind.i64 65 8 = 0 from by decide, show bits BinOp.and IntKind.i64 65 16 = 0 from by decide, show bits BinOp.and IntKind.i64 65 32 = 0 from by decide, show bits BinOp.and IntKind.i64 65 64 = 64 from by decide, if_true, show ¬ ((1 : Int) = 0) from by decide, show ¬ ((2 : Int) = 0) from by decide, show ¬ ((4 : Int) = 0) from by decide, show ¬ ((8 : Int) = 0) from by decide, show ¬ ((16 : Int) = 0) from by decide, show ¬ ((64 : Int) = 0) from by decide, if_false, show ((32 : Int) == 0) = false from by decide, show ((0 : Int) == 0) = true from by decide, Bool.and_true, Bool.and_false] using bare_65 k wk op hn hg nn ng t a u y er w
 ·simpa only [zb, zy, show bits BinOp.and IntKind.i64 66 1 = 0 from by decide, show bits BinOp.and IntKind.i64 66 2 = 2 from by decide, show bits BinOp.and IntKind.i64 66 4 = 0 from by decide, show bits BinOp.and IntKind.i64 66 8 = 0 from by decide, show bits BinOp.and IntKind.i64 66 16 = 0 from by decide, show bits BinOp.and IntKind.i64 66 32 = 0 from by decide, show bits BinOp.and IntKind.i64 66 64 = 64 from by decide, if_true, show ¬ ((1 : Int) = 0) from by decide, show ¬ ((2 : Int) = 0) from by decide, show ¬ ((4 : Int) = 0) from by decide, show ¬ ((8 : Int) = 0) from by decide, show ¬ ((16 : Int) = 0) from by decide, show ¬ ((64 : Int) = 0) from by decide, if_false, show ((32 : Int) == 0) = false from by decide, show ((0 : Int) == 0) = true from by decide, Bool.and_true, Bool.and_false] using bare_66 k wk op hn hg nn ng t a u y er w
 ·simpa only [zb, zy, show bits BinOp.and IntKind.i64 70 1 = 0 from by decide, show bits BinOp.and IntKind.i64 70 2 = 2 from by decide, show bits BinOp.and IntKind.i64 70 4 = 4 from by decide, show bits BinOp.and IntKind.i64 70 8 = 0 from by decide, show bits BinOp.and IntKind.i64 70 16 = 0 from by decide, show bits BinOp.and IntKind.i64 70 32 = 0 from by decide, show bits BinOp.and IntKind.i64 70 64 = 64 from by decide, if_true, show ¬ ((1 : Int) = 0) from by decide, show ¬ ((2 : Int) = 0) from by decide, show ¬ ((4 : Int) = 0) from by decide, show ¬ ((8 : Int) = 0) from by decide, show ¬ ((16 : Int) = 0) from by decide, show ¬ ((64 : Int) = 0) from by decide, if_false, show ((32 : Int) == 0) = false from by decide, show ((0 : Int) == 0) = true from by decide, Bool.and_true, Bool.and_false] using bare_70 k wk op hn hg nn ng t a u y er w
 ·simpa only [zb, zy, show bits BinOp.and IntKind.i64 71 1 = 1 from by decide, show bits BinOp.and IntKind.i64 71 2 = 2 from by decide, show bits BinOp.and IntKind.i64 71 4 = 4 from by decide, show bits BinOp.and IntKind.i64 71 8 = 0 from by decide, show bits BinOp.and IntKind.i64 71 16 = 0 from by decide, show bits BinOp.and IntKind.i64 71 32 = 0 from by decide, show bits BinOp.and IntKind.i64 71 64 = 64 from by decide, if_true, show ¬ ((1 : Int) = 0) from by decide, show ¬ ((2 : Int) = 0) from by decide, show ¬ ((4 : Int) = 0) from by decide, show ¬ ((8 : Int) = 0) from by decide, show ¬ ((16 : Int) = 0) from by decide, show ¬ ((64 : Int) = 0) from by decide, if_false, show ((32 : Int) == 0) = false from by decide, show ((0 : Int) == 0) = true from by decide, Bool.and_true, Bool.and_false] using bare_71 k wk op hn hg nn ng t a u y er w
theorem pick_in (L : List Int) (op : Int) : (pickL L op).1 = 0 ∨ (pickL L op).1 ∈ L := by
 unfold pickL
 split
 ·exact .inl rfl
 ·right
  simp only [List.getD_eq_getElem?_getD]
  rename_i h
  have : op.toNat < L.length := by omega
  rw [List.getElem?_eq_getElem this]
  exact List.getElem_mem _
theorem fields_in (k wk op er : Int) : (fieldsF k wk op er).1 ∈ fset := by
 unfold fieldsF
 have p2 := pick_in [0, 28, 1, 5, 9, 0, 0, 0] op
 have p3 := pick_in [0, 70, 33, 71, 65] op
 have p5 := pick_in [0, 66, 32, 66, 64, 0, 4, 4] op
 generalize pickL [0, 28, 1, 5, 9, 0, 0, 0] op = q2 at *
 generalize pickL [0, 70, 33, 71, 65] op = q3 at *
 generalize pickL [0, 66, 32, 66, 64, 0, 4, 4] op = q5 at *
 split
 ·show (4 : Int) ∈ fset
  decide
 split
 ·show (21 : Int) ∈ fset
  decide
 split
 ·simp only [List.mem_cons, List.not_mem_nil, or_false] at p2
  rcases p2 with h | h | h | h | h | h | h | h | h <;> rw [h] <;> decide
 split
 ·simp only [List.mem_cons, List.not_mem_nil, or_false] at p3
  rcases p3 with h | h | h | h | h | h <;> rw [h] <;> split <;> dsimp only <;> decide
 split
 ·simp only [List.mem_cons, List.not_mem_nil, or_false] at p5
  rcases p5 with h | h | h | h | h | h | h | h | h <;> rw [h] <;> split <;> dsimp only <;> decide
 ·decide
theorem eqHa (d : Nat) (w : World) (x0 y0 : Int) (x1 y1 : Int) :
  (Op.equalIn (d + 2) 34 (.agg #[.int .i64 x0, .int .i64 x1]) (.agg #[.int .i64 y0, .int .i64 y1])).run Try.prog w = .ok (x0 == y0 && (x1 == y1)) w := by
 refine eqA_of Try.underlying34 (by kernel_rfl) ?_
 refine eqf_cons (by rfl) (by go_simp; rfl) (by go_simp; rfl) (by go_simp) ?_
 exact eqf_last (by rfl) (by go_simp; rfl) (by go_simp; rfl) (by go_simp)
theorem eqEv (d : Nat) (w : World) (x0 y0 : Int) (x1 y1 : Int) (x2 y2 : Int) (x3 y3 : Int) (x4 y4 : Int) (x5 y5 : Int) (x6 y6 : Int) (x7 y7 : Int) (x8 y8 : Int) (x9 y9 : Int) (x10 y10 : Bool) (x11 y11 : Int) :
  (Op.equalIn (d + 3) 54 (.agg #[.int .i64 x0, .int .i64 x1, .int .i64 x2, .int .i64 x3, .int .i64 x4, .int .i64 x5, .int .i64 x6, .int .i64 x7, .int .i64 x8, .int .i64 x9, .bool x10, .int .i64 x11]) (.agg #[.int .i64 y0, .int .i64 y1, .int .i64 y2, .int .i64 y3, .int .i64 y4, .int .i64 y5, .int .i64 y6, .int .i64 y7, .int .i64 y8, .int .i64 y9, .bool y10, .int .i64 y11])).run Try.prog w = .ok (x0 == y0 && (x1 == y1 && (x2 == y2 && ((x3 == y3 && (x4 == y4)) && ((x5 == y5 && (x6 == y6)) && (x7 == y7 && (x8 == y8 && (x9 == y9 && (x10 == y10 && (x11 == y11)))))))))) w := by
 refine eqA_of Try.underlying54 (by kernel_rfl) ?_
 refine eqf_cons (by rfl) (by go_simp; rfl) (by go_simp; rfl) (by go_simp) ?_
 refine eqf_cons (by rfl) (by go_simp; rfl) (by go_simp; rfl) (by go_simp) ?_
 refine eqf_cons (by rfl) (by go_simp; rfl) (by go_simp; rfl) (by go_simp) ?_
 refine eqf_cons (by rfl) (by go_simp) (by go_simp) (eqHa (d + 0) w _ _ _ _) ?_
 refine eqf_cons (by rfl) (by go_simp) (by go_simp) (eqHa (d + 0) w _ _ _ _) ?_
 refine eqf_cons (by rfl) (by go_simp; rfl) (by go_simp; rfl) (by go_simp) ?_
 refine eqf_cons (by rfl) (by go_simp; rfl) (by go_simp; rfl) (by go_simp) ?_
 refine eqf_cons (by rfl) (by go_simp; rfl) (by go_simp; rfl) (by go_simp) ?_
 refine eqf_cons (by rfl) (by go_simp; rfl) (by go_simp; rfl) (by go_simp) ?_
 exact eqf_last (by rfl) (by go_simp; rfl) (by go_simp; rfl) (by go_simp)
end Go.Proofs.Ythniclbmpeklmaa.Ev
end
section
namespace Go.Proofs.Ythniclbmpeklmaa.Ev
open Go.RowKit Go.Proofs.YthniclbmpeklmaaW.PrintWords Go.Proofs.YthniclbmpeklmaaW.PrintLast Go.Proofs.YthniclbmpeklmaaW.PrintMore
set_option linter.unusedVariables false
set_option linter.unusedSimpArgs false
theorem dlt {x : Int} (h : 0 ≤ x) : decide (x < 0) = false := decide_eq_false (by omega)
attribute [local go_sem high] eqEv eqHa
set_option maxHeartbeats 4000000 in
set_option maxRecDepth 100000 in
theorem right_walk (k wk op hn hg nn ng t a u : Int) (y : Bool) (er : Int) (f : Int) (ok q : Bool) (x1 x2 x3 x4 x5 x6 x7 : Int) (x8 : Bool) (x9 : Int)
    (CF : Aside0 (∀ W, Calls Try.prog 92 #[.agg (evC k wk op hn hg nn ng t a u y er)] W fun e w' => e = .returned (.tuple #[.int .i64 f, .bool ok]) ∧ Below W.heap.size W w'))
    (CC : Aside0 (∀ W, Calls Try.prog 93 #[.agg (evC k wk op hn hg nn ng t a u y er)] W fun e w' => e = .returned (.bool q) ∧ Below W.heap.size W w'))
    (CB : Aside0 (∀ W, Calls Try.prog 94 #[.agg (evC k wk op hn hg nn ng t a u y er), .int .i64 f] W fun e w' => e = .returned (.agg (evC k wk op x1 x2 x3 x4 x5 x6 x7 x8 x9)) ∧ Below W.heap.size W w')) (w : World) :
    Calls Try.prog 65 #[.agg (evC k wk op hn hg nn ng t a u y er)] w fun e w' => e = .returned (.bool (ok && (!decide (wk < 0) && (!decide (er < 0) && ((k == 2) || q))) && (x1 == 0 && x2 == 0 && x3 == 0 && x4 == 0 && x5 == 0 && x6 == 0 && x7 == 0 && !x8 && x9 == 0))) ∧ Below w.heap.size w w' := by
  have hu := Try.underlying54
  have hu2 := Try.underlying34
  by_cases k2 : k = 2
  · subst k2
    have HB := Aside0.mk (below_alloc (Below.refl w.heap.size w) (.cells (evC 2 wk op hn hg nn ng t a u y er) 54))
    have HO := Aside0.mk (heap_alloc_new w (.cells (evC 2 wk op hn hg nn ng t a u y er) 54))
    go_enter Try.func65, Try.ntmps65
    go_wp2_with (first | (go_at_call 92; (with_reducible refine (CF.out _).mono ?_); rintro e w1 ⟨rfl, hb⟩; have n0 := Aside0.mk (below_step HB.out hb); have n1 := Aside0.mk ((hb.block _ (by simp)).trans HO.out); clear HB HO hb; have HB := n0; have HO := n1; clear n0 n1; have hc := fun i => blk_cell HO.out i; have hz := Aside0.mk (blk_lt HO.out)) | (go_at_call 93; (with_reducible refine (CC.out _).mono ?_); rintro e w1 ⟨rfl, hb⟩; have n0 := Aside0.mk (below_step HB.out hb); have n1 := Aside0.mk ((hb.block _ hz.out).trans HO.out); clear hc; clear HB HO hb; have HB := n0; have HO := n1; clear n0 n1; have hc := fun i => blk_cell HO.out i))
    all_goals first
      | (go_ret; exact ⟨by first | (simp [*, Bool.and_assoc, dlt]; done) | (simp_all [Bool.and_assoc, dlt]; done) | (simp [*, Bool.and_assoc, dlt]; rename_i h9; intro hq; exfalso; rcases h9 with (h9 | h9) | h9; omega; omega; (rw [hq] at h9; cases h9)), HB.out⟩)
      | (go_region_held3 (fun w' => ∀ i, w'.cell? ⟨w.heap.size, i, none⟩ = (evC 2 wk op hn hg nn ng t a u y er)[i]?) ((intro i; exact blk_cell HO.out i)) ((go_at_call 94; (with_reducible refine (CB.out _).mono ?_); rintro e w2 ⟨rfl, hb⟩; have n0 := Aside0.mk (below_step (Below.drew HB.out) hb); have n1 := Aside0.mk ((hb.block _ (by exact blk_lt HO.out)).trans (by exact HO.out)); clear hc; clear HB HO hb; have HB := n0; have HO := n1; clear n0 n1))
         go_wp2
         go_ret
         exact ⟨by first | (simp [*, Bool.and_assoc, dlt]; done) | (simp_all [Bool.and_assoc, dlt]; done) | (simp [*, Bool.and_assoc, dlt]; rename_i h9; intro hq; exfalso; rcases h9 with (h9 | h9) | h9; omega; omega; (rw [hq] at h9; cases h9)), HB.out⟩)
  · have b2 : (k == 2) = false := beq_eq_false_iff_ne.2 k2
    have b2' : (k != 2) = true := bne_iff_ne.2 k2
    clear k2
    have HB := Aside0.mk (below_alloc (Below.refl w.heap.size w) (.cells (evC k wk op hn hg nn ng t a u y er) 54))
    have HO := Aside0.mk (heap_alloc_new w (.cells (evC k wk op hn hg nn ng t a u y er) 54))
    go_enter Try.func65, Try.ntmps65
    go_wp2_with (first | (go_at_call 92; (with_reducible refine (CF.out _).mono ?_); rintro e w1 ⟨rfl, hb⟩; have n0 := Aside0.mk (below_step HB.out hb); have n1 := Aside0.mk ((hb.block _ (by simp)).trans HO.out); clear HB HO hb; have HB := n0; have HO := n1; clear n0 n1; have hc := fun i => blk_cell HO.out i; have hz := Aside0.mk (blk_lt HO.out)) | (go_at_call 93; (with_reducible refine (CC.out _).mono ?_); rintro e w1 ⟨rfl, hb⟩; have n0 := Aside0.mk (below_step HB.out hb); have n1 := Aside0.mk ((hb.block _ hz.out).trans HO.out); clear hc; clear HB HO hb; have HB := n0; have HO := n1; clear n0 n1; have hc := fun i => blk_cell HO.out i))
    all_goals first
      | (go_ret; exact ⟨by first | (simp [*, Bool.and_assoc, dlt]; done) | (simp_all [Bool.and_assoc, dlt]; done) | (simp [*, Bool.and_assoc, dlt]; rename_i h9; intro hq; exfalso; rcases h9 with (h9 | h9) | h9; omega; omega; (rw [hq] at h9; cases h9)), HB.out⟩)
      | (go_region_held3 (fun w' => ∀ i, w'.cell? ⟨w.heap.size, i, none⟩ = (evC k wk op hn hg nn ng t a u y er)[i]?) ((intro i; exact blk_cell HO.out i)) ((go_at_call 94; (with_reducible refine (CB.out _).mono ?_); rintro e w2 ⟨rfl, hb⟩; have n0 := Aside0.mk (below_step (Below.drew HB.out) hb); have n1 := Aside0.mk ((hb.block _ (by exact blk_lt HO.out)).trans (by exact HO.out)); clear hc; clear HB HO hb; have HB := n0; have HO := n1; clear n0 n1))
         go_wp2
         go_ret
         exact ⟨by first | (simp [*, Bool.and_assoc, dlt]; done) | (simp_all [Bool.and_assoc, dlt]; done) | (simp [*, Bool.and_assoc, dlt]; rename_i h9; intro hq; exfalso; rcases h9 with (h9 | h9) | h9; omega; omega; (rw [hq] at h9; cases h9)), HB.out⟩)
def rightP (k wk op hn hg nn ng t a u : Int) (y : Bool) (er : Int) : Bool :=
  ((fieldsF k wk op er).2 && (!decide (wk < 0) && (!decide (er < 0) && ((k == 2) || countedB k hn hg nn ng t a u))) && (zb (fieldsF k wk op er).1 1 hn == 0 && zb (fieldsF k wk op er).1 1 hg == 0 && zb (fieldsF k wk op er).1 2 nn == 0 && zb (fieldsF k wk op er).1 2 ng == 0 && zb (fieldsF k wk op er).1 4 t == 0 && zb (fieldsF k wk op er).1 8 a == 0 && zb (fieldsF k wk op er).1 16 u == 0 && !zy (fieldsF k wk op er).1 y && zb (fieldsF k wk op er).1 64 er == 0))
theorem ev_right_any (k wk op hn hg nn ng t a u : Int) (y : Bool) (er : Int) (w : World) :
    Calls Try.prog 65 #[.agg (evC k wk op hn hg nn ng t a u y er)] w fun e w' => e = .returned (.bool (rightP k wk op hn hg nn ng t a u y er)) ∧ Below w.heap.size w w' :=
  right_walk k wk op hn hg nn ng t a u y er _ _ _ _ _ _ _ _ _ _ _ _ ⟨fun W => fields_any k wk op hn hg nn ng t a u y er W⟩ ⟨fun W => counted_any k wk op hn hg nn ng t a u y er W⟩ ⟨fun W => bare_any k wk op hn hg nn ng t a u y er _ (fields_in k wk op er) W⟩ w
end Go.Proofs.Ythniclbmpeklmaa.Ev
end
section
namespace Go.Proofs.Ythniclbmpeklmaa.Ev
open Go.RowKit
set_option linter.unusedVariables false
set_option linter.unusedSimpArgs false
set_option maxHeartbeats 4000000
theorem right_no (k wk op hn hg nn ng t a u : Int) (y : Bool) (er : Int) (h1 : (fieldsF k wk op er).2 = false) (h2 : kindB k wk op = false) : rightP k wk op hn hg nn ng t a u y er = evRight k wk op hn hg nn ng t a u y er := by
 rw [rightP, evRight, h1, h2]
 rfl
theorem pick_in1 {L : List Int} {op : Int} (h : op < 1 ∨ (L.length : Int) ≤ op) : pickL L op = (0, false) := if_pos h
theorem right_eq (k wk op hn hg nn ng t a u : Int) (y : Bool) (er : Int) : rightP k wk op hn hg nn ng t a u y er = evRight k wk op hn hg nn ng t a u y er := by
 by_cases k1 : k = 1
 ·subst k1
  cases y <;> (rw [Bool.eq_iff_iff]; simp (decide := true) [rightP, evRight, fieldsF, pickL, kindB, emptyB, hasH, hasN, hasT, hasA, hasU, hasY, hasE, in3, made, countedB, zb, zy, *] <;> omega)
 by_cases k4 : k = 4
 ·subst k4
  cases y <;> (rw [Bool.eq_iff_iff]; simp (decide := true) [rightP, evRight, fieldsF, pickL, kindB, emptyB, hasH, hasN, hasT, hasA, hasU, hasY, hasE, in3, made, countedB, zb, zy, *] <;> omega)
 by_cases k2 : k = 2
 ·subst k2
  by_cases h : op < 1 ∨ (8 : Int) ≤ op
  ·apply right_no
   ·rw [fieldsF, if_neg (by decide), if_neg (by decide), if_pos rfl, pick_in1 h]
   ·rw [Bool.eq_false_iff]
    simp [kindB]
    omega
  ·obtain rfl | rfl | rfl | rfl | rfl | rfl | rfl : op = 1 ∨ op = 2 ∨ op = 3 ∨ op = 4 ∨ op = 5 ∨ op = 6 ∨ op = 7 := by omega
   all_goals (cases y <;> (rw [Bool.eq_iff_iff]; simp (decide := true) [rightP, evRight, fieldsF, pickL, kindB, emptyB, hasH, hasN, hasT, hasA, hasU, hasY, hasE, in3, made, countedB, zb, zy, *] <;> omega))
 by_cases k3 : k = 3
 ·subst k3
  by_cases h : op < 1 ∨ (5 : Int) ≤ op
  ·apply right_no
   ·rw [fieldsF, if_neg (by decide), if_neg (by decide), if_neg (by decide), if_pos rfl, pick_in1 h]
   ·rw [Bool.eq_false_iff]
    simp [kindB]
    omega
  ·by_cases he : er = 0
   ·subst he
    obtain rfl | rfl | rfl | rfl : op = 1 ∨ op = 2 ∨ op = 3 ∨ op = 4 := by omega
    all_goals (cases y <;> (rw [Bool.eq_iff_iff]; simp (decide := true) [rightP, evRight, fieldsF, pickL, kindB, emptyB, hasH, hasN, hasT, hasA, hasU, hasY, hasE, in3, made, countedB, zb, zy, *] <;> omega))
   ·obtain rfl | rfl | rfl | rfl : op = 1 ∨ op = 2 ∨ op = 3 ∨ op = 4 := by omega
    all_goals (cases y <;> (rw [Bool.eq_iff_iff]; simp (decide := true) [rightP, evRight, fieldsF, pickL, kindB, emptyB, hasH, hasN, hasT, hasA, hasU, hasY, hasE, in3, made, countedB, zb, zy, *] <;> omega))
 by_cases k5 : k = 5
 ·subst k5
  by_cases h : op < 1 ∨ (8 : Int) ≤ op
  ·apply right_no
   ·rw [fieldsF, if_neg (by decide), if_neg (by decide), if_neg (by decide), if_neg (by decide), if_pos rfl, pick_in1 h]
   ·rw [Bool.eq_false_iff]
    simp [kindB]
    omega
  ·by_cases he : er = 0
   ·subst he
    obtain rfl | rfl | rfl | rfl | rfl | rfl | rfl : op = 1 ∨ op = 2 ∨ op = 3 ∨ op = 4 ∨ op = 5 ∨ op = 6 ∨ op = 7 := by omega
    all_goals (cases y <;> (rw [Bool.eq_iff_iff]; simp (decide := true) [rightP, evRight, fieldsF, pickL, kindB, emptyB, hasH, hasN, hasT, hasA, hasU, hasY, hasE, in3, made, countedB, zb, zy, *] <;> omega))
   ·obtain rfl | rfl | rfl | rfl | rfl | rfl | rfl : op = 1 ∨ op = 2 ∨ op = 3 ∨ op = 4 ∨ op = 5 ∨ op = 6 ∨ op = 7 := by omega
    all_goals (cases y <;> (rw [Bool.eq_iff_iff]; simp (decide := true) [rightP, evRight, fieldsF, pickL, kindB, emptyB, hasH, hasN, hasT, hasA, hasU, hasY, hasE, in3, made, countedB, zb, zy, *] <;> omega))
 apply right_no
 ·rw [fieldsF, if_neg k1, if_neg k4, if_neg k2, if_neg k3, if_neg k5]
 ·rw [Bool.eq_false_iff]
  simp [kindB]
  omega
theorem event_right (k wk op hn hg nn ng t a u : Int) (y : Bool) (er : Int) (w : World) :
  Calls Try.prog 65 #[.agg (evC k wk op hn hg nn ng t a u y er)] w fun e w' => e = .returned (.bool (evRight k wk op hn hg nn ng t a u y er)) ∧ Below w.heap.size w w' := by
 rw [← right_eq]
 exact ev_right_any k wk op hn hg nn ng t a u y er w
end Go.Proofs.Ythniclbmpeklmaa.Ev
end
section
set_option maxHeartbeats 4000000
set_option maxRecDepth 100000
namespace Go.Proofs.Ythniclbmpeklmaa.Ju
open Go.RowKit Go.Maps Go.Proofs.YthniclbmpeklmaaW.PrintWords Go.Proofs.YthniclbmpeklmaaW.PrintLast Go.Proofs.YthniclbmpeklmaaW.PrintMore Go.Proofs.Ythniclbmpeklmaa.Mp Go.Proofs.Ythniclbmpeklmaa.Au
set_option linter.unusedVariables false
set_option linter.unusedSimpArgs false
def unF (c : Bool) (m' m : Md) : Md × Int := if c = true then (m', 0) else (m, 6)
theorem end_new (b : Nat) (x y s : Int) (w : World) : Calls Try.prog 75 #[pA b, .agg #[.int .i64 x, .int .i64 y], .int .i64 s] w fun r w' => ∃ sb xb hb, r = .returned (.func (.func 99) #[] #[pA sb, pA xb, pA hb]) ∧ (w'.heap[sb]? = some (.cells #[.int .i64 s] 3 (0, 0)) ∧ w'.heap[xb]? = some (.cells #[pA b] 58 (0, 0)) ∧ w'.heap[hb]? = some (.cells #[.int .i64 x, .int .i64 y] 34 (0, 0))) ∧ Below w.heap.size w w' :=
 (end_any b x y s w).mono fun r w' ⟨h1, h2⟩ => ⟨_, _, _, h1, by
  subst h2
  exact ⟨by have q := blk_new ((w.alloc (.cells #[pA b] 58)).alloc (.cells #[.int .i64 x, .int .i64 y] 34)) (.cells #[.int .i64 s] 3); rw [show ((w.alloc (.cells #[pA b] 58)).alloc (.cells #[.int .i64 x, .int .i64 y] 34)).heap.size = w.heap.size + 1 + 1 by simp] at q; exact q,
   blk_alloc (blk_alloc (blk_new _ _) _) _, blk_alloc (by have q := blk_new (w.alloc (.cells #[pA b] 58)) (.cells #[.int .i64 x, .int .i64 y] 34); rw [show (w.alloc (.cells #[pA b] 58)).heap.size = w.heap.size + 1 by simp] at q; exact q) _⟩, by
  subst h2
  exact below_alloc (below_alloc (below_alloc (Below.refl _ _) _) _) _⟩
section
variable {w W W1 : World} {B b n m1 m2 eb xb sb hb : Nat} {m m' : Md} {e : Ev}
theorem un_no (fn : Fn) (first cap : Array Value) (h : MdIs W B b n m m1 m2) (k : Nat) : Calls Try.prog 73 #[.bool false, .func fn first cap] W fun r w' => r = .returned (.int .i64 (unF false m' m).2) ∧ MdIs w' B b (n + k) (unF false m' m).1 m1 m2 ∧ Fr W w' (mdS b m1 m2) :=
 (unless_no fn first cap W).mono fun r w' ⟨h1, h2⟩ => ⟨h1, by rw [h2]; exact h.up (by omega), by rw [h2]; exact Fr.refl _ _⟩
theorem un_nothing (c : Bool) (h : MdIs W B b n m m1 m2) : Calls Try.prog 73 #[.bool c, .func (.func 100) #[] #[]] W fun r w' => r = .returned (.int .i64 (unF c m m).2) ∧ MdIs w' B b (n + 3) (unF c m m).1 m1 m2 ∧ Fr W w' (mdS b m1 m2) := by
 cases c with
 | false => exact un_no _ _ _ h 3
 | true => exact (unless_nothing #[] W (fun w' => w' = W) (model_nothing W)).mono fun r w' ⟨h1, h2⟩ => ⟨h1, by rw [h2]; exact h.up (by omega), by rw [h2]; exact Fr.refl _ _⟩
theorem un_tick (c : Bool) (h : MdIs W B b n m m1 m2) (he : W.heap[eb]? = some (.cells (evA e) 54 (0, 0))) (hx : W.heap[xb]? = some (.cells #[pA b] 58 (0, 0))) : Calls Try.prog 73 #[.bool c, .func (.func 74) #[] #[pA eb, pA xb]] W fun r w' => r = .returned (.int .i64 (unF c { m with clk := e.t } m).2) ∧ MdIs w' B b (n + 3) (unF c { m with clk := e.t } m).1 m1 m2 ∧ Fr W w' (mdS b m1 m2) := by
 cases c with
 | false => exact un_no _ _ _ h 3
 | true => exact (unless_tick #[pA eb, pA xb] W _ (tick_any e h he hx)).mono fun r w' ⟨h1, h2⟩ => ⟨h1, h2.1.up (by omega), h2.2⟩
theorem un_end (c : Bool) (s x y : Int) (hn : n ≤ 1000000) (hx : (Lit.int .i64 x).wf = true) (hy : (Lit.int .i64 y).wf = true) (h : MdIs W B b n m m1 m2) (hb3 : W.heap[sb]? = some (.cells #[.int .i64 s] 3 (0, 0)) ∧ W.heap[xb]? = some (.cells #[pA b] 58 (0, 0)) ∧ W.heap[hb]? = some (.cells #[.int .i64 x, .int .i64 y] 34 (0, 0))) :
  Calls Try.prog 73 #[.bool c, .func (.func 99) #[] #[pA sb, pA xb, pA hb]] W fun r w' => r = .returned (.int .i64 (unF c (m.end_ (x, y) s) m).2) ∧ MdIs w' B b (n + 3) (unF c (m.end_ (x, y) s) m).1 m1 m2 ∧ Fr W w' (mdS b m1 m2) := by
 cases c with
 | false => exact un_no _ _ _ h 3
 | true => exact (unless_end #[pA sb, pA xb, pA hb] W _ (end1_any s x y hn hx hy h hb3.1 hb3.2.1 hb3.2.2)).mono fun r w' ⟨h1, h2⟩ => ⟨h1, h2.1.up (by omega), h2.2⟩
theorem un_start (c : Bool) (hn : n ≤ 1000000) (hx : (Lit.int .i64 e.nn).wf = true) (hy : (Lit.int .i64 e.ng).wf = true) (h : MdIs W B b n m m1 m2) (he : W.heap[eb]? = some (.cells (evA e) 54 (0, 0))) (hxb : W.heap[xb]? = some (.cells #[pA b] 58 (0, 0))) :
  Calls Try.prog 73 #[.bool c, .func (.func 101) #[] #[pA xb, pA eb]] W fun r w' => r = .returned (.int .i64 (unF c (m.arm e.new e.t) m).2) ∧ MdIs w' B b (n + 3) (unF c (m.arm e.new e.t) m).1 m1 m2 ∧ Fr W w' (mdS b m1 m2) := by
 cases c with
 | false => exact un_no _ _ _ h 3
 | true => exact (unless_start #[pA xb, pA eb] W _ (start1_any e hn hx hy h he hxb)).mono fun r w' ⟨h1, h2⟩ => ⟨h1, h2.1.up (by omega), h2.2⟩
theorem un_rearm (c : Bool) (hn : n + 1 ≤ 1000000) (hx : (Lit.int .i64 e.nn).wf = true) (hy : (Lit.int .i64 e.ng).wf = true) (hx' : (Lit.int .i64 e.hn).wf = true) (hy' : (Lit.int .i64 e.hg).wf = true) (h : MdIs W B b n m m1 m2) (he : W.heap[eb]? = some (.cells (evA e) 54 (0, 0))) (hxb : W.heap[xb]? = some (.cells #[pA b] 58 (0, 0))) :
  Calls Try.prog 73 #[.bool c, .func (.func 103) #[] #[pA xb, pA eb]] W fun r w' => r = .returned (.int .i64 (unF c ((m.end_ e.h 4).arm e.new e.t) m).2) ∧ MdIs w' B b (n + 3) (unF c ((m.end_ e.h 4).arm e.new e.t) m).1 m1 m2 ∧ Fr W w' (mdS b m1 m2) := by
 cases c with
 | false => exact un_no _ _ _ h 3
 | true => exact (unless_rearm #[pA xb, pA eb] W _ (rearm1_any e hn hx hy hx' hy' h he hxb)).mono fun r w' ⟨h1, h2⟩ => ⟨h1, h2⟩
end
structure Dj (w W : World) (B b n m1 m2 : Nat) (m : Md) (e : Ev) : Prop where
 md : MdIs W B b n m m1 m2
 xb : W.heap[w.heap.size]? = some (.cells #[pA b] 58 (0, 0))
 eb : W.heap[w.heap.size + 1]? = some (.cells (evA e) 54 (0, 0))
 fr : Fr w W (mdS b m1 m2)
section
variable {w W W1 : World} {B b n m1 m2 : Nat} {m : Md} {e : Ev}
theorem Dj.start (h : MdIs w B b n m m1 m2) (e : Ev) : Dj w ((w.alloc (.cells #[pA b] 58)).alloc (.cells (evA e) 54)) B b n m1 m2 m e :=
 ⟨(h.alloc _).alloc _, blk_alloc (blk_new _ _) _, by have q := blk_new (w.alloc (.cells #[pA b] 58)) (.cells (evA e) 54); rw [show (w.alloc (.cells #[pA b] 58)).heap.size = w.heap.size + 1 by simp] at q; exact q, ((Fr.refl _ _).alloc _).alloc _⟩
theorem Dj.step (h : Dj w W B b n m1 m2 m e) (hb : Below W.heap.size W W1) : Dj w W1 B b n m1 m2 m e := ⟨h.md.below hb, blk_below h.xb hb, blk_below h.eb hb, h.fr.trans (Fr.of_below hb _)⟩
theorem Dj.alloc (h : Dj w W B b n m1 m2 m e) (o : Obj) : Dj w (W.alloc o) B b n m1 m2 m e := h.step (below_alloc (Below.refl _ _) o)
theorem Dj.drew (h : Dj w W B b n m1 m2 m e) : Dj w W.drew B b n m1 m2 m e := ⟨h.md.drew, h.xb, h.eb, h.fr.drew⟩
theorem Dj.drewN (h : Dj w W B b n m1 m2 m e) (q : Nat) : Dj w (W.drewN q) B b n m1 m2 m e := ⟨h.md.drewN q, h.xb, h.eb, h.fr.drewN q⟩
theorem Dj.cells (h : Dj w W B b n m1 m2 m e) : (∀ i, W.cell? ⟨b, i, none⟩ = (mdA m m1 m2)[i]?) ∧ (∀ i, W.cell? ⟨w.heap.size, i, none⟩ = (#[pA b] : Array Value)[i]?) ∧ (∀ i, W.cell? ⟨w.heap.size + 1, i, none⟩ = (evA e)[i]?) := ⟨fun i => h.md.cell i, fun i => blk_cell h.xb i, fun i => blk_cell h.eb i⟩
end
def DoPost (w : World) (B b n m1 m2 : Nat) (p : Md × Int) (r : Ending) (w' : World) : Prop := r = .returned (.int .i64 p.2) ∧ MdIs w' B b (n + 3) p.1 m1 m2 ∧ Fr w w' (mdS b m1 m2)
theorem DoPost.of {w W : World} {B b n m1 m2 : Nat} {p q : Md × Int} (h : p = q) {v : Int} (hv : v = q.2) (hm : MdIs W B b (n + 3) q.1 m1 m2) (hf : Fr w W (mdS b m1 m2)) : DoPost w B b n m1 m2 p (.returned (.int .i64 v)) W := by
 subst h
 subst hv
 exact ⟨rfl, hm, hf⟩
theorem point_cancel {w : World} {B b n m1 m2 : Nat} {m : Md} (e : Ev) (hw : (Lit.int .i64 e.hn).wf = true ∧ (Lit.int .i64 e.hg).wf = true ∧ (Lit.int .i64 e.nn).wf = true ∧ (Lit.int .i64 e.ng).wf = true) (hn : n + 1 ≤ 1000000) (h : MdIs w B b n m m1 m2) (ho : e.op = 2) (hy : e.y = true) :
  Calls Try.prog 76 #[pA b, .agg (evA e), .bool (m.st e.h == 1)] w (DoPost w B b n m1 m2 (pointF m e)) := by
 have hu0 := Try.underlying125
 have hu1 := Try.underlying34
 have hu2 := Try.underlying54
 have hmf : ∀ (fn : Fn) (first cap : Array Value) (w : World), (Instr.makeFunc fn first cap).run Try.prog w = .ok (.func fn first cap) w := fun _ _ _ _ => rfl
 have HF := Aside0.mk (show pointF m e = unF (m.st e.h == 1) (m.end_ e.h 3) m by unfold pointF; rw [if_pos ⟨ho, hy⟩]; unfold unF; by_cases ha : m.st e.h = 1 <;> simp [ha])
 have q0 : (e.op == 2) = true := beq_iff_eq.2 (ho)
 have r0 : (e.op != 2) = false := bne_eq_false_iff_eq.2 (ho)
 have y0 := hy
 have HW := Aside0.mk hw
 have HN := Aside0.mk hn
 have HJ := Aside0.mk (Dj.start h e)
 have CE := Aside0.mk (fun W => end_new b e.hn e.hg 3 W)
 obtain ⟨am, ham⟩ : ∃ am, (m.st e.h == 1) = am := ⟨_, rfl⟩
 (try rw [ham] at HF); rw [ham]
 clear ham hw hn h ho hy
 go_enter Try.func76, Try.ntmps76
 go_wp2_with (first | (go_at_call 75; (with_reducible refine (CE.out _).mono ?_); rintro r w2 ⟨sb, xb, hb, rfl, h3, hb2⟩; have HE2 := Aside0.mk (And.intro h3 (HJ.out.step hb2)); clear h3 hb2) | (go_at_call 73; (with_reducible refine (un_end am 3 e.hn e.hg (by have := HN.out; omega) HW.out.1 HW.out.2.1 HE2.out.2.md HE2.out.1).mono ?_); rintro r w4 ⟨rfl, hm, hf⟩; have HM := Aside0.mk (And.intro hm (HE2.out.2.fr.trans hf)); clear hm hf))
 go_ret
 exact DoPost.of HF.out rfl HM.out.1 HM.out.2
theorem point_cancel_no {w : World} {B b n m1 m2 : Nat} {m : Md} (e : Ev) (hw : (Lit.int .i64 e.hn).wf = true ∧ (Lit.int .i64 e.hg).wf = true ∧ (Lit.int .i64 e.nn).wf = true ∧ (Lit.int .i64 e.ng).wf = true) (hn : n + 1 ≤ 1000000) (h : MdIs w B b n m m1 m2) (ho : e.op = 2) (hy : e.y = false) :
  Calls Try.prog 76 #[pA b, .agg (evA e), .bool (m.st e.h == 1)] w (DoPost w B b n m1 m2 (pointF m e)) := by
 have hu0 := Try.underlying125
 have hu1 := Try.underlying34
 have hu2 := Try.underlying54
 have hmf : ∀ (fn : Fn) (first cap : Array Value) (w : World), (Instr.makeFunc fn first cap).run Try.prog w = .ok (.func fn first cap) w := fun _ _ _ _ => rfl
 have HF := Aside0.mk (show pointF m e = unF (!(m.st e.h == 1)) m m by unfold pointF; rw [if_neg (by rw [hy]; simp), if_pos (.inl ho)]; unfold unF; by_cases ha : m.st e.h = 1 <;> simp [ha])
 have q0 : (e.op == 2) = true := beq_iff_eq.2 (ho)
 have r0 : (e.op != 2) = false := bne_eq_false_iff_eq.2 (ho)
 have y0 := hy
 have HW := Aside0.mk hw
 have HN := Aside0.mk hn
 have HJ := Aside0.mk (Dj.start h e)
 obtain ⟨am, ham⟩ : ∃ am, (m.st e.h == 1) = am := ⟨_, rfl⟩
 (try rw [ham] at HF); rw [ham]
 clear ham hw hn h ho hy
 go_enter Try.func76, Try.ntmps76
 go_wp2_with (first | (go_at_call 73; (with_reducible refine (un_nothing (!am) HJ.out.md).mono ?_); rintro r w4 ⟨rfl, hm, hf⟩; have HM := Aside0.mk (And.intro hm (HJ.out.fr.trans hf)); clear hm hf))
 go_ret
 exact DoPost.of HF.out rfl HM.out.1 HM.out.2
theorem point_stale {w : World} {B b n m1 m2 : Nat} {m : Md} (e : Ev) (hw : (Lit.int .i64 e.hn).wf = true ∧ (Lit.int .i64 e.hg).wf = true ∧ (Lit.int .i64 e.nn).wf = true ∧ (Lit.int .i64 e.ng).wf = true) (hn : n + 1 ≤ 1000000) (h : MdIs w B b n m m1 m2) (n2 : ¬ e.op = 2) (n1 : ¬ e.op = 1) (h4 : e.er = 4) :
  Calls Try.prog 76 #[pA b, .agg (evA e), .bool (m.st e.h == 1)] w (DoPost w B b n m1 m2 (pointF m e)) := by
 have hu0 := Try.underlying125
 have hu1 := Try.underlying34
 have hu2 := Try.underlying54
 have hmf : ∀ (fn : Fn) (first cap : Array Value) (w : World), (Instr.makeFunc fn first cap).run Try.prog w = .ok (.func fn first cap) w := fun _ _ _ _ => rfl
 have HF := Aside0.mk (show pointF m e = unF (!(m.st e.h == 1)) m m by unfold pointF; rw [if_neg (fun q => n2 q.1), if_pos (.inr ⟨h4, n1⟩)]; unfold unF; by_cases ha : m.st e.h = 1 <;> simp [ha])
 have q0 : (e.op == 2) = false := beq_eq_false_iff_ne.2 (n2)
 have r0 : (e.op != 2) = true := bne_iff_ne.2 (n2)
 have q1 : (e.op == 1) = false := beq_eq_false_iff_ne.2 (n1)
 have r1 : (e.op != 1) = true := bne_iff_ne.2 (n1)
 have q4 : (e.er == 4) = true := beq_iff_eq.2 (h4)
 have r4 : (e.er != 4) = false := bne_eq_false_iff_eq.2 (h4)
 have HW := Aside0.mk hw
 have HN := Aside0.mk hn
 have HJ := Aside0.mk (Dj.start h e)
 obtain ⟨am, ham⟩ : ∃ am, (m.st e.h == 1) = am := ⟨_, rfl⟩
 (try rw [ham] at HF); rw [ham]
 clear ham hw hn h n2 n1 h4
 go_enter Try.func76, Try.ntmps76
 go_wp2_with (first | (go_at_call 73; (with_reducible refine (un_nothing (!am) HJ.out.md).mono ?_); rintro r w4 ⟨rfl, hm, hf⟩; have HM := Aside0.mk (And.intro hm (HJ.out.fr.trans hf)); clear hm hf))
 go_ret
 exact DoPost.of HF.out rfl HM.out.1 HM.out.2
theorem point_err1 {w : World} {B b n m1 m2 : Nat} {m : Md} (e : Ev) (hw : (Lit.int .i64 e.hn).wf = true ∧ (Lit.int .i64 e.hg).wf = true ∧ (Lit.int .i64 e.nn).wf = true ∧ (Lit.int .i64 e.ng).wf = true) (hn : n + 1 ≤ 1000000) (h : MdIs w B b n m m1 m2) (ho : e.op = 1) (h0 : ¬ e.er = 0) :
  Calls Try.prog 76 #[pA b, .agg (evA e), .bool (m.st e.h == 1)] w (DoPost w B b n m1 m2 (pointF m e)) := by
 have hu0 := Try.underlying125
 have hu1 := Try.underlying34
 have hu2 := Try.underlying54
 have hmf : ∀ (fn : Fn) (first cap : Array Value) (w : World), (Instr.makeFunc fn first cap).run Try.prog w = .ok (.func fn first cap) w := fun _ _ _ _ => rfl
 have HF := Aside0.mk (show pointF m e = (m, 0) by unfold pointF; rw [if_neg (fun q => by omega), if_neg (by omega), if_pos h0])
 have q0 : (e.op == 2) = false := beq_eq_false_iff_ne.2 (by omega)
 have r0 : (e.op != 2) = true := bne_iff_ne.2 (by omega)
 have q1 : (e.op == 1) = true := beq_iff_eq.2 (ho)
 have r1 : (e.op != 1) = false := bne_eq_false_iff_eq.2 (ho)
 have q4 : (e.er == 0) = false := beq_eq_false_iff_ne.2 (h0)
 have r4 : (e.er != 0) = true := bne_iff_ne.2 (h0)
 have HW := Aside0.mk hw
 have HN := Aside0.mk hn
 have HJ := Aside0.mk (Dj.start h e)
 obtain ⟨am, ham⟩ : ∃ am, (m.st e.h == 1) = am := ⟨_, rfl⟩
 (try rw [ham] at HF); rw [ham]
 clear ham hw hn h ho h0
 go_enter Try.func76, Try.ntmps76
 by_cases g4 : (e.er == 4) = true
 ·go_wp2
  go_ret
  exact DoPost.of HF.out rfl (HJ.out.md.up (by omega)) HJ.out.fr
 ·have g4 : (e.er == 4) = false := by simpa using g4
  go_wp2
  go_ret
  exact DoPost.of HF.out rfl (HJ.out.md.up (by omega)) HJ.out.fr
theorem point_err {w : World} {B b n m1 m2 : Nat} {m : Md} (e : Ev) (hw : (Lit.int .i64 e.hn).wf = true ∧ (Lit.int .i64 e.hg).wf = true ∧ (Lit.int .i64 e.nn).wf = true ∧ (Lit.int .i64 e.ng).wf = true) (hn : n + 1 ≤ 1000000) (h : MdIs w B b n m m1 m2) (n2 : ¬ e.op = 2) (h0 : ¬ e.er = 0) (h4 : ¬ e.er = 4) :
  Calls Try.prog 76 #[pA b, .agg (evA e), .bool (m.st e.h == 1)] w (DoPost w B b n m1 m2 (pointF m e)) := by
 have hu0 := Try.underlying125
 have hu1 := Try.underlying34
 have hu2 := Try.underlying54
 have hmf : ∀ (fn : Fn) (first cap : Array Value) (w : World), (Instr.makeFunc fn first cap).run Try.prog w = .ok (.func fn first cap) w := fun _ _ _ _ => rfl
 have HF := Aside0.mk (show pointF m e = (m, 0) by unfold pointF; rw [if_neg (fun q => n2 q.1), if_neg (by omega), if_pos h0])
 have q0 : (e.op == 2) = false := beq_eq_false_iff_ne.2 (n2)
 have r0 : (e.op != 2) = true := bne_iff_ne.2 (n2)
 have q1 : (e.er == 4) = false := beq_eq_false_iff_ne.2 (h4)
 have r1 : (e.er != 4) = true := bne_iff_ne.2 (h4)
 have q4 : (e.er == 0) = false := beq_eq_false_iff_ne.2 (h0)
 have r4 : (e.er != 0) = true := bne_iff_ne.2 (h0)
 have HW := Aside0.mk hw
 have HN := Aside0.mk hn
 have HJ := Aside0.mk (Dj.start h e)
 obtain ⟨am, ham⟩ : ∃ am, (m.st e.h == 1) = am := ⟨_, rfl⟩
 (try rw [ham] at HF); rw [ham]
 clear ham hw hn h n2 h0 h4
 go_enter Try.func76, Try.ntmps76
 go_wp2
 go_ret
 exact DoPost.of HF.out rfl (HJ.out.md.up (by omega)) HJ.out.fr
theorem point_migrate {w : World} {B b n m1 m2 : Nat} {m : Md} (e : Ev) (hw : (Lit.int .i64 e.hn).wf = true ∧ (Lit.int .i64 e.hg).wf = true ∧ (Lit.int .i64 e.nn).wf = true ∧ (Lit.int .i64 e.ng).wf = true) (hn : n + 1 ≤ 1000000) (h : MdIs w B b n m m1 m2) (ho : e.op = 4) (h0 : e.er = 0) :
  Calls Try.prog 76 #[pA b, .agg (evA e), .bool (m.st e.h == 1)] w (DoPost w B b n m1 m2 (pointF m e)) := by
 have hu0 := Try.underlying125
 have hu1 := Try.underlying34
 have hu2 := Try.underlying54
 have hmf : ∀ (fn : Fn) (first cap : Array Value) (w : World), (Instr.makeFunc fn first cap).run Try.prog w = .ok (.func fn first cap) w := fun _ _ _ _ => rfl
 have HF := Aside0.mk (show pointF m e = unF (m.st e.h == 1) m m by unfold pointF; rw [if_neg (by omega), if_neg (by omega), if_neg (by omega), if_neg (by omega), if_pos ho]; unfold unF; by_cases ha : m.st e.h = 1 <;> simp [ha])
 have q0 : (e.op == 2) = false := beq_eq_false_iff_ne.2 (by omega)
 have r0 : (e.op != 2) = true := bne_iff_ne.2 (by omega)
 have q1 : (e.op == 1) = false := beq_eq_false_iff_ne.2 (by omega)
 have r1 : (e.op != 1) = true := bne_iff_ne.2 (by omega)
 have q2 : (e.op == 4) = true := beq_iff_eq.2 (ho)
 have r2 : (e.op != 4) = false := bne_eq_false_iff_eq.2 (ho)
 have q5 : (e.er == 4) = false := beq_eq_false_iff_ne.2 (by omega)
 have r5 : (e.er != 4) = true := bne_iff_ne.2 (by omega)
 have q4 : (e.er == 0) = true := beq_iff_eq.2 (h0)
 have r4 : (e.er != 0) = false := bne_eq_false_iff_eq.2 (h0)
 have HW := Aside0.mk hw
 have HN := Aside0.mk hn
 have HJ := Aside0.mk (Dj.start h e)
 obtain ⟨am, ham⟩ : ∃ am, (m.st e.h == 1) = am := ⟨_, rfl⟩
 (try rw [ham] at HF); rw [ham]
 clear ham hw hn h ho h0
 go_enter Try.func76, Try.ntmps76
 go_wp2_with (first | (go_at_call 73; (with_reducible refine (un_nothing am HJ.out.md).mono ?_); rintro r w4 ⟨rfl, hm, hf⟩; have HM := Aside0.mk (And.intro hm (HJ.out.fr.trans hf)); clear hm hf))
 go_ret
 exact DoPost.of HF.out rfl HM.out.1 HM.out.2
theorem point_rearm_node {w : World} {B b n m1 m2 : Nat} {m : Md} (e : Ev) (hw : (Lit.int .i64 e.hn).wf = true ∧ (Lit.int .i64 e.hg).wf = true ∧ (Lit.int .i64 e.nn).wf = true ∧ (Lit.int .i64 e.ng).wf = true) (hn : n + 1 ≤ 1000000) (h : MdIs w B b n m m1 m2) (n2 : ¬ e.op = 2) (n1 : ¬ e.op = 1) (n4 : ¬ e.op = 4) (h0 : e.er = 0) (hx : ¬ e.nn = e.hn) :
  Calls Try.prog 76 #[pA b, .agg (evA e), .bool (m.st e.h == 1)] w (DoPost w B b n m1 m2 (pointF m e)) := by
 have hu0 := Try.underlying125
 have hu1 := Try.underlying34
 have hu2 := Try.underlying54
 have hmf : ∀ (fn : Fn) (first cap : Array Value) (w : World), (Instr.makeFunc fn first cap).run Try.prog w = .ok (.func fn first cap) w := fun _ _ _ _ => rfl
 have HF := Aside0.mk (show pointF m e = unF false ((m.end_ e.h 4).arm e.new e.t) m by unfold pointF; rw [if_neg (by omega), if_neg (by omega), if_neg (by omega), if_neg n1, if_neg n4]; rw [if_neg (fun q => hx q.2.1)]; rfl)
 have q0 : (e.op == 2) = false := beq_eq_false_iff_ne.2 (n2)
 have r0 : (e.op != 2) = true := bne_iff_ne.2 (n2)
 have q1 : (e.op == 1) = false := beq_eq_false_iff_ne.2 (n1)
 have r1 : (e.op != 1) = true := bne_iff_ne.2 (n1)
 have q2 : (e.op == 4) = false := beq_eq_false_iff_ne.2 (n4)
 have r2 : (e.op != 4) = true := bne_iff_ne.2 (n4)
 have q5 : (e.er == 4) = false := beq_eq_false_iff_ne.2 (by omega)
 have r5 : (e.er != 4) = true := bne_iff_ne.2 (by omega)
 have q4 : (e.er == 0) = true := beq_iff_eq.2 (h0)
 have r4 : (e.er != 0) = false := bne_eq_false_iff_eq.2 (h0)
 have g0 : (e.nn == e.hn) = false := beq_eq_false_iff_ne.2 (hx)
 have HW := Aside0.mk hw
 have HN := Aside0.mk hn
 have HJ := Aside0.mk (Dj.start h e)
 obtain ⟨am, ham⟩ : ∃ am, (m.st e.h == 1) = am := ⟨_, rfl⟩
 (try rw [ham] at HF); rw [ham]
 clear ham hw hn h n2 n1 n4 h0 hx
 cases am with
 | true =>
  go_enter Try.func76, Try.ntmps76
  go_wp2_with (first | (go_at_call 73; (with_reducible refine (un_rearm false HN.out HW.out.2.2.1 HW.out.2.2.2 HW.out.1 HW.out.2.1 HJ.out.md HJ.out.eb HJ.out.xb).mono ?_); rintro r w4 ⟨rfl, hm, hf⟩; have HM := Aside0.mk (And.intro hm (HJ.out.fr.trans hf)); clear hm hf))
  go_ret
  exact DoPost.of (HF.out.trans (by rfl)) rfl HM.out.1 HM.out.2
 | false =>
  go_enter Try.func76, Try.ntmps76
  go_wp2_with (first | (go_at_call 73; (with_reducible refine (un_rearm false HN.out HW.out.2.2.1 HW.out.2.2.2 HW.out.1 HW.out.2.1 HJ.out.md HJ.out.eb HJ.out.xb).mono ?_); rintro r w4 ⟨rfl, hm, hf⟩; have HM := Aside0.mk (And.intro hm (HJ.out.fr.trans hf)); clear hm hf))
  go_ret
  exact DoPost.of (HF.out.trans (by rfl)) rfl HM.out.1 HM.out.2
theorem point_rearm {w : World} {B b n m1 m2 : Nat} {m : Md} (e : Ev) (hw : (Lit.int .i64 e.hn).wf = true ∧ (Lit.int .i64 e.hg).wf = true ∧ (Lit.int .i64 e.nn).wf = true ∧ (Lit.int .i64 e.ng).wf = true) (hn : n + 1 ≤ 1000000) (h : MdIs w B b n m m1 m2) (n2 : ¬ e.op = 2) (n1 : ¬ e.op = 1) (n4 : ¬ e.op = 4) (h0 : e.er = 0) (hx : e.nn = e.hn) :
  Calls Try.prog 76 #[pA b, .agg (evA e), .bool (m.st e.h == 1)] w (DoPost w B b n m1 m2 (pointF m e)) := by
 have hu0 := Try.underlying125
 have hu1 := Try.underlying34
 have hu2 := Try.underlying54
 have hmf : ∀ (fn : Fn) (first cap : Array Value) (w : World), (Instr.makeFunc fn first cap).run Try.prog w = .ok (.func fn first cap) w := fun _ _ _ _ => rfl
 have HF := Aside0.mk (show pointF m e = unF ((m.st e.h == 1) && (e.ng == wrap64 (e.hg + 1))) ((m.end_ e.h 4).arm e.new e.t) m by unfold pointF; rw [if_neg (by omega), if_neg (by omega), if_neg (by omega), if_neg n1, if_neg n4]; unfold unF; by_cases ha : m.st e.h = 1 <;> by_cases hb : e.ng = wrap64 (e.hg + 1) <;> simp [ha, hb, hx])
 have q0 : (e.op == 2) = false := beq_eq_false_iff_ne.2 (n2)
 have r0 : (e.op != 2) = true := bne_iff_ne.2 (n2)
 have q1 : (e.op == 1) = false := beq_eq_false_iff_ne.2 (n1)
 have r1 : (e.op != 1) = true := bne_iff_ne.2 (n1)
 have q2 : (e.op == 4) = false := beq_eq_false_iff_ne.2 (n4)
 have r2 : (e.op != 4) = true := bne_iff_ne.2 (n4)
 have q5 : (e.er == 4) = false := beq_eq_false_iff_ne.2 (by omega)
 have r5 : (e.er != 4) = true := bne_iff_ne.2 (by omega)
 have q4 : (e.er == 0) = true := beq_iff_eq.2 (h0)
 have r4 : (e.er != 0) = false := bne_eq_false_iff_eq.2 (h0)
 have g0 : (e.nn == e.hn) = true := beq_iff_eq.2 (hx)
 have HW := Aside0.mk hw
 have HN := Aside0.mk hn
 have HJ := Aside0.mk (Dj.start h e)
 obtain ⟨am, ham⟩ : ∃ am, (m.st e.h == 1) = am := ⟨_, rfl⟩
 (try rw [ham] at HF); rw [ham]
 clear ham hw hn h n2 n1 n4 h0 hx
 cases am with
 | true =>
  go_enter Try.func76, Try.ntmps76
  go_wp2_with (first | (go_at_call 73; (with_reducible refine (un_rearm (e.ng == wrap64 (e.hg + 1)) HN.out HW.out.2.2.1 HW.out.2.2.2 HW.out.1 HW.out.2.1 HJ.out.md HJ.out.eb HJ.out.xb).mono ?_); rintro r w4 ⟨rfl, hm, hf⟩; have HM := Aside0.mk (And.intro hm (HJ.out.fr.trans hf)); clear hm hf))
  go_ret
  exact DoPost.of (HF.out.trans (by rfl)) rfl HM.out.1 HM.out.2
 | false =>
  go_enter Try.func76, Try.ntmps76
  go_wp2_with (first | (go_at_call 73; (with_reducible refine (un_rearm false HN.out HW.out.2.2.1 HW.out.2.2.2 HW.out.1 HW.out.2.1 HJ.out.md HJ.out.eb HJ.out.xb).mono ?_); rintro r w4 ⟨rfl, hm, hf⟩; have HM := Aside0.mk (And.intro hm (HJ.out.fr.trans hf)); clear hm hf))
  go_ret
  exact DoPost.of (HF.out.trans (by rfl)) rfl HM.out.1 HM.out.2
theorem point_start {w : World} {B b n m1 m2 : Nat} {m : Md} (e : Ev) (hw : (Lit.int .i64 e.hn).wf = true ∧ (Lit.int .i64 e.hg).wf = true ∧ (Lit.int .i64 e.nn).wf = true ∧ (Lit.int .i64 e.ng).wf = true) (hn : n + 1 ≤ 1000000) (hwl : ∀ x, (Lit.int .i64 ((m.lst x).getD 0)).wf = true) (h : MdIs w B b n m m1 m2) (ho : e.op = 1) (h0 : e.er = 0) :
  Calls Try.prog 76 #[pA b, .agg (evA e), .bool (m.st e.h == 1)] w (DoPost w B b n m1 m2 (pointF m e)) := by
 have hu0 := Try.underlying125
 have hu1 := Try.underlying34
 have hu2 := Try.underlying54
 have hmf : ∀ (fn : Fn) (first cap : Array Value) (w : World), (Instr.makeFunc fn first cap).run Try.prog w = .ok (.func fn first cap) w := fun _ _ _ _ => rfl
 have HF := Aside0.mk (show pointF m e = unF (!(m.lst e.nn).isSome || (m.st (e.nn, (m.lst e.nn).getD 0) != 1 && decide ((m.lst e.nn).getD 0 < e.ng))) (m.arm e.new e.t) m by unfold pointF Md.startOk; rw [if_neg (by omega), if_neg (by omega), if_neg (by omega), if_pos ho]; rfl)
 have q0 : (e.op == 2) = false := beq_eq_false_iff_ne.2 (by omega)
 have r0 : (e.op != 2) = true := bne_iff_ne.2 (by omega)
 have q1 : (e.op == 1) = true := beq_iff_eq.2 (ho)
 have r1 : (e.op != 1) = false := bne_eq_false_iff_eq.2 (ho)
 have q5 : (e.er == 4) = false := beq_eq_false_iff_ne.2 (by omega)
 have r5 : (e.er != 4) = true := bne_iff_ne.2 (by omega)
 have q4 : (e.er == 0) = true := beq_iff_eq.2 (h0)
 have r4 : (e.er != 0) = false := bne_eq_false_iff_eq.2 (h0)
 have HW := Aside0.mk hw
 have HN := Aside0.mk hn
 have HJ := Aside0.mk (Dj.start h e)
 obtain ⟨am, ham⟩ : ∃ am, (m.st e.h == 1) = am := ⟨_, rfl⟩
 rw [ham]
 clear ham hw hn h ho h0
 have hl := fun q => HJ.out.md.lookL HW.out.2.2.1 (((w.alloc (.cells #[pA b] 58)).alloc (.cells (evA e) 54)).drewN q) rfl
 obtain ⟨ls, hls⟩ : ∃ ls, m.lst e.nn = ls := ⟨_, rfl⟩
 rw [hls] at hl HF
 obtain ⟨g, hg⟩ : ∃ g, ls.getD 0 = g := ⟨_, rfl⟩
 obtain ⟨md, hmd⟩ : ∃ md, ls.isSome = md := ⟨_, rfl⟩
 have HG := Aside0.mk (show (Lit.int .i64 g).wf = true by rw [← hg, ← hls]; exact hwl e.nn)
 rw [hg, hmd] at hl HF
 have CS : Aside0 (∀ W, Dj w W B b n m1 m2 m e → Calls Try.prog 33 #[pA b, .agg #[.int .i64 e.nn, .int .i64 g]] W fun r w' => r = .returned (.int .i64 (m.st (e.nn, g))) ∧ Below W.heap.size W w') := ⟨fun W hW => model_status e.nn g HW.out.2.2.1 HG.out hW.md⟩
 obtain ⟨sg, hsg⟩ : ∃ sg, m.st (e.nn, g) = sg := ⟨_, rfl⟩
 rw [hsg] at CS HF
 have HOK := HF
 clear hg hmd hls hsg hwl HF
 have hcx := fun i => blk_cell HJ.out.xb i; have hce := fun i => blk_cell HJ.out.eb i; have hlx := blk_lt HJ.out.xb; have hle := blk_lt HJ.out.eb; have hcm := fun i => HJ.out.md.cell i; have hlm := HJ.out.md.lt
 go_enter Try.func76, Try.ntmps76
 go_wp2
 go_quiet (fail)
 clear hl
 cases md with
 | false =>
  go_wp2_with (first | (go_at_call 33; (with_reducible refine (CS.out _ (HJ.out.drewN _)).mono ?_); rintro r w2 ⟨rfl, hb2⟩; have HJ2 := Aside0.mk ((HJ.out.drewN _).step hb2); clear hb2 hcx hce hlx hle hcm hlm; have HJ := HJ2; have hcx := fun i => blk_cell HJ.out.xb i; have hce := fun i => blk_cell HJ.out.eb i; have hlx := blk_lt HJ.out.xb; have hle := blk_lt HJ.out.eb; have hcm := fun i => HJ.out.md.cell i; have hlm := HJ.out.md.lt) | (go_at_call 73; (with_reducible refine (un_start true (by have := HN.out; omega) HW.out.2.2.1 HW.out.2.2.2 HJ2.out.md HJ2.out.eb HJ2.out.xb).mono ?_); rintro r w4 ⟨rfl, hm, hf⟩; have HM := Aside0.mk (And.intro hm (HJ2.out.fr.trans hf)); clear hm hf))
  go_ret
  exact DoPost.of (HOK.out.trans (by rfl)) rfl HM.out.1 HM.out.2
 | true =>
  by_cases hs1 : sg = 1
  ·have g1 : (sg != 1) = false := bne_eq_false_iff_eq.2 (hs1)
   have HS1 := Aside0.mk g1
   clear hs1
   go_wp2_with (first | (go_at_call 33; (with_reducible refine (CS.out _ (HJ.out.drewN _)).mono ?_); rintro r w2 ⟨rfl, hb2⟩; have HJ2 := Aside0.mk ((HJ.out.drewN _).step hb2); clear hb2 hcx hce hlx hle hcm hlm; have HJ := HJ2; have hcx := fun i => blk_cell HJ.out.xb i; have hce := fun i => blk_cell HJ.out.eb i; have hlx := blk_lt HJ.out.xb; have hle := blk_lt HJ.out.eb; have hcm := fun i => HJ.out.md.cell i; have hlm := HJ.out.md.lt) | (go_at_call 73; (with_reducible refine (un_start false (by have := HN.out; omega) HW.out.2.2.1 HW.out.2.2.2 HJ2.out.md HJ2.out.eb HJ2.out.xb).mono ?_); rintro r w4 ⟨rfl, hm, hf⟩; have HM := Aside0.mk (And.intro hm (HJ2.out.fr.trans hf)); clear hm hf))
   go_ret
   exact DoPost.of (HOK.out.trans (by rw [HS1.out]; rfl)) rfl HM.out.1 HM.out.2
  ·have g1 : (sg != 1) = true := bne_iff_ne.2 (hs1)
   have HS1 := Aside0.mk g1
   clear hs1
   go_wp2_with (first | (go_at_call 33; (with_reducible refine (CS.out _ (HJ.out.drewN _)).mono ?_); rintro r w2 ⟨rfl, hb2⟩; have HJ2 := Aside0.mk ((HJ.out.drewN _).step hb2); clear hb2 hcx hce hlx hle hcm hlm; have HJ := HJ2; have hcx := fun i => blk_cell HJ.out.xb i; have hce := fun i => blk_cell HJ.out.eb i; have hlx := blk_lt HJ.out.xb; have hle := blk_lt HJ.out.eb; have hcm := fun i => HJ.out.md.cell i; have hlm := HJ.out.md.lt) | (go_at_call 73; (with_reducible refine (un_start (decide (g < e.ng)) (by have := HN.out; omega) HW.out.2.2.1 HW.out.2.2.2 HJ2.out.md HJ2.out.eb HJ2.out.xb).mono ?_); rintro r w4 ⟨rfl, hm, hf⟩; have HM := Aside0.mk (And.intro hm (HJ2.out.fr.trans hf)); clear hm hf))
   go_ret
   exact DoPost.of (HOK.out.trans (by rw [HS1.out]; rfl)) rfl HM.out.1 HM.out.2
theorem point_any {w : World} {B b n m1 m2 : Nat} {m : Md} (e : Ev) (hw : (Lit.int .i64 e.hn).wf = true ∧ (Lit.int .i64 e.hg).wf = true ∧ (Lit.int .i64 e.nn).wf = true ∧ (Lit.int .i64 e.ng).wf = true) (hn : n + 1 ≤ 1000000) (hwl : ∀ x, (Lit.int .i64 ((m.lst x).getD 0)).wf = true) (h : MdIs w B b n m m1 m2) :
  Calls Try.prog 76 #[pA b, .agg (evA e), .bool (m.st e.h == 1)] w (DoPost w B b n m1 m2 (pointF m e)) := by
 by_cases n2 : e.op = 2
 ·cases hy : e.y with
  | true => exact point_cancel e hw hn h n2 hy
  | false => exact point_cancel_no e hw hn h n2 hy
 by_cases h0 : e.er = 0
 ·by_cases n1 : e.op = 1
  ·exact point_start e hw hn hwl h n1 h0
  by_cases n4 : e.op = 4
  ·exact point_migrate e hw hn h n4 h0
  by_cases hx : e.nn = e.hn
  ·exact point_rearm e hw hn h n2 n1 n4 h0 hx
  ·exact point_rearm_node e hw hn h n2 n1 n4 h0 hx
 ·by_cases n1 : e.op = 1
  ·exact point_err1 e hw hn h n1 h0
  ·by_cases h4 : e.er = 4
   ·exact point_stale e hw hn h n2 n1 h4
   ·exact point_err e hw hn h n2 h0 h4
end Go.Proofs.Ythniclbmpeklmaa.Ju
end
section
set_option maxHeartbeats 4000000
set_option maxRecDepth 100000
namespace Go.Proofs.Ythniclbmpeklmaa.Ju
open Go.RowKit Go.Maps Go.Proofs.YthniclbmpeklmaaW.PrintWords Go.Proofs.YthniclbmpeklmaaW.PrintLast Go.Proofs.YthniclbmpeklmaaW.PrintMore Go.Proofs.Ythniclbmpeklmaa.Mp Go.Proofs.Ythniclbmpeklmaa.Au
set_option linter.unusedVariables false
set_option linter.unusedSimpArgs false
theorem right_run (e : Ev) (W : World) : Calls Try.prog 65 #[.agg (evA e)] W fun r w' => r = .returned (.bool (rightJ e)) ∧ Below W.heap.size W w' := Ev.event_right e.k e.wk e.op e.hn e.hg e.nn e.ng e.t e.a e.u e.y e.er W
theorem gen_world' {P : Program} {c : Code} {Q : Exit → Act → World → Prop} {a : Act} {w : World} (R : World → Prop) (h : R w) (k : ∀ W, R W → c.wp P Q a W) : c.wp P Q a w := k w h
structure Dk (w W : World) (B b n m1 m2 : Nat) (m : Md) (e : Ev) (fb : Nat) : Prop where
 dj : Dj w W B b n m1 m2 m e
 fb : W.heap[fb]? = some (.cells #[.int .i64 (m.st e.h), .int .i64 (m.dl e.h)] 122 (0, 0))
section
variable {w W W1 : World} {B b n m1 m2 fb : Nat} {m : Md} {e : Ev}
theorem Dk.step (h : Dk w W B b n m1 m2 m e fb) (hb : Below W.heap.size W W1) : Dk w W1 B b n m1 m2 m e fb := ⟨h.dj.step hb, blk_below h.fb hb⟩
theorem Dk.drew (h : Dk w W B b n m1 m2 m e fb) : Dk w W.drew B b n m1 m2 m e fb := ⟨h.dj.drew, h.fb⟩
theorem Dk.cells (h : Dk w W B b n m1 m2 m e fb) : (∀ i, W.cell? ⟨b, i, none⟩ = (mdA m m1 m2)[i]?) ∧ (∀ i, W.cell? ⟨w.heap.size, i, none⟩ = (#[pA b] : Array Value)[i]?) ∧ (∀ i, W.cell? ⟨w.heap.size + 1, i, none⟩ = (evA e)[i]?) ∧ (∀ i, W.cell? ⟨fb, i, none⟩ = (#[.int .i64 (m.st e.h), .int .i64 (m.dl e.h)] : Array Value)[i]?) := ⟨h.dj.cells.1, h.dj.cells.2.1, h.dj.cells.2.2, fun i => blk_cell h.fb i⟩
end
def doR.T7 : Bool × List (List Nat × List Nat) := (true, [([], []), ([0], [0]), ([], []), ([2], [2]), ([3], [3]), ([4], [4]), ([5], [5]), ([1, 6], [1, 6]), ([], []), ([7, 8], [7, 8]), ([9, 9, 0, 1, 2, 3, 4, 5, 6, 7, 8, 9], [9])])
def doR.B7 : List Nat := [0, 1, 0, 4, 12, 28, 60, 127, 0, 511, 1023]
theorem doR.tab7 : rtab .any (opsOf Try.f43 7) = doR.T7 := by kernel_rfl
theorem doR.bits7 : waitsOk doR.T7.2 doR.B7 = true := by kernel_rfl
def doR.T9 : Bool × List (List Nat × List Nat) := (true, [([], []), ([0], [0]), ([1], [1]), ([2, 1], [1, 2]), ([1], [1]), ([4, 1], [1, 4]), ([3, 5, 1], [1, 3, 5]), ([1, 6], [1, 6]), ([7, 1], [7]), ([8], [8]), ([9, 8], [8, 9]), ([8], [8]), ([11, 8], [8, 11]), ([12, 8], [8, 12]), ([13, 8], [8, 13]), ([10, 14, 8], [8, 10, 14]), ([8, 15], [8, 15]), ([], []), ([], []), ([18], [18]), ([17, 19, 8], [17, 19]), ([16, 20, 20], [16, 20]), ([21, 21, 0, 1, 2, 3, 4, 5, 6, 7, 8, 9, 10, 11, 12, 13, 14, 15, 16, 17, 18, 19, 20, 21], [21])])
def doR.B9 : List Nat := [0, 1, 3, 7, 3, 19, 63, 127, 255, 511, 1023, 511, 2559, 6655, 14847, 32767, 65535, 0, 0, 262144, 918015, 2097151, 4194303]
theorem doR.tab9 : rtab .any (opsOf Try.f43 9) = doR.T9 := by kernel_rfl
theorem doR.bits9 : waitsOk doR.T9.2 doR.B9 = true := by kernel_rfl
def doR.T3 : Bool × List (List Nat × List Nat) := (true, [([], []), ([0], [0]), ([1], [1]), ([2], [2]), ([], []), ([4], [4]), ([3, 5], [3, 5]), ([], []), ([7, 6, 0, 1, 2, 3, 4, 5, 6, 7], [6, 7])])
def doR.B3 : List Nat := [0, 1, 3, 7, 0, 16, 63, 0, 255]
theorem doR.tab3 : rtab .any (opsOf Try.f43 3) = doR.T3 := by kernel_rfl
theorem doR.bits3 : waitsOk doR.T3.2 doR.B3 = true := by kernel_rfl
theorem do_wrong {w : World} {B b n m1 m2 : Nat} {m : Md} (e : Ev) (hw : (Lit.int .i64 e.hn).wf = true ∧ (Lit.int .i64 e.hg).wf = true ∧ (Lit.int .i64 e.nn).wf = true ∧ (Lit.int .i64 e.ng).wf = true) (hn : n + 1 ≤ 1000000) (hwl : ∀ x, (Lit.int .i64 ((m.lst x).getD 0)).wf = true) (h : MdIs w B b n m m1 m2) (hr : rightJ e = false) :
  Calls Try.prog 43 #[pA b, .agg (evA e)] w (DoPost w B b n m1 m2 (doF m e)) := by
 have hu0 := Try.underlying125
 have hu1 := Try.underlying34
 have hu2 := Try.underlying54
 have hu3 := Try.underlying122
 have hmf : ∀ (fn : Fn) (first cap : Array Value) (w : World), (Instr.makeFunc fn first cap).run Try.prog w = .ok (.func fn first cap) w := fun _ _ _ _ => rfl
 have HF := Aside0.mk (show doF m e = (m, 8) by unfold doF; rw [if_pos hr])
 have CR := Aside0.mk (fun W => right_run e W)
 rw [hr] at CR
 have HW := Aside0.mk hw
 have HN := Aside0.mk hn
 have HWL := Aside0.mk hwl
 have HJ := Aside0.mk (Dj.start h e)
 clear hw hn hwl h hr
 have hcx := fun i => blk_cell HJ.out.xb i
 have hce := fun i => blk_cell HJ.out.eb i
 have hlx := blk_lt HJ.out.xb
 have hle := blk_lt HJ.out.eb
 have hcm := fun i => HJ.out.md.cell i
 have hlm := HJ.out.md.lt
 go_enter Try.func43, Try.ntmps43
 go_wp2_with (first | (go_at_call 65; (with_reducible refine (CR.out _).mono ?_); rintro r w2 ⟨rfl, hb2⟩; have HJ2 := Aside0.mk (HJ.out.step hb2); clear hb2 hcx hce hlx hle hcm hlm; have HJ := HJ2; have hcx := fun i => blk_cell HJ.out.xb i; have hce := fun i => blk_cell HJ.out.eb i; have hlx := blk_lt HJ.out.xb; have hle := blk_lt HJ.out.eb; have hcm := fun i => HJ.out.md.cell i; have hlm := HJ.out.md.lt))
 go_ret
 exact DoPost.of HF.out rfl (HJ.out.md.up (by omega)) HJ.out.fr
theorem do_other {w : World} {B b n m1 m2 : Nat} {m : Md} (e : Ev) (hw : (Lit.int .i64 e.hn).wf = true ∧ (Lit.int .i64 e.hg).wf = true ∧ (Lit.int .i64 e.nn).wf = true ∧ (Lit.int .i64 e.ng).wf = true) (hn : n + 1 ≤ 1000000) (hwl : ∀ x, (Lit.int .i64 ((m.lst x).getD 0)).wf = true) (h : MdIs w B b n m m1 m2) (hr : rightJ e = true) (hk : e.k = 2 ∨ e.k = 5) :
  Calls Try.prog 43 #[pA b, .agg (evA e)] w (DoPost w B b n m1 m2 (doF m e)) := by
 have hu0 := Try.underlying125
 have hu1 := Try.underlying34
 have hu2 := Try.underlying54
 have hu3 := Try.underlying122
 have hmf : ∀ (fn : Fn) (first cap : Array Value) (w : World), (Instr.makeFunc fn first cap).run Try.prog w = .ok (.func fn first cap) w := fun _ _ _ _ => rfl
 have HF := Aside0.mk (show doF m e = (m, 8) by unfold doF; rw [if_neg (by rw [hr]; simp), if_neg (by omega), if_neg (by omega), if_neg (by omega)])
 have k1 : (e.k == 1) = false := beq_eq_false_iff_ne.2 (by omega)
 have k4 : (e.k == 4) = false := beq_eq_false_iff_ne.2 (by omega)
 have k3 : (e.k == 3) = false := beq_eq_false_iff_ne.2 (by omega)
 have CR := Aside0.mk (fun W => right_run e W)
 rw [hr] at CR
 have HW := Aside0.mk hw
 have HN := Aside0.mk hn
 have HWL := Aside0.mk hwl
 have HJ := Aside0.mk (Dj.start h e)
 clear hw hn hwl h hr hk
 have hcx := fun i => blk_cell HJ.out.xb i
 have hce := fun i => blk_cell HJ.out.eb i
 have hlx := blk_lt HJ.out.xb
 have hle := blk_lt HJ.out.eb
 have hcm := fun i => HJ.out.md.cell i
 have hlm := HJ.out.md.lt
 go_enter Try.func43, Try.ntmps43
 go_wp2_with (first | (go_at_call 65; (with_reducible refine (CR.out _).mono ?_); rintro r w2 ⟨rfl, hb2⟩; have HJ2 := Aside0.mk (HJ.out.step hb2); clear hb2 hcx hce hlx hle hcm hlm; have HJ := HJ2; have hcx := fun i => blk_cell HJ.out.xb i; have hce := fun i => blk_cell HJ.out.eb i; have hlx := blk_lt HJ.out.xb; have hle := blk_lt HJ.out.eb; have hcm := fun i => HJ.out.md.cell i; have hlm := HJ.out.md.lt))
 obtain ⟨kl, hkl⟩ := keyH e.hn e.hg HW.out.1 HW.out.2.1
 refine start_ (n := 9) (S := (fun w' => (∀ i, w'.cell? ⟨b, i, none⟩ = (mdA m m1 m2)[i]?) ∧ (∀ i, w'.cell? ⟨w.heap.size, i, none⟩ = (#[pA b] : Array Value)[i]?) ∧ (∀ i, w'.cell? ⟨w.heap.size + 1, i, none⟩ = (evA e)[i]?) ∧ (Instr.lookup 123 (.map (some m1)) (haV e.h) false).run Try.prog w' = .ok (.agg #[.int .i64 (m.st e.h), .int .i64 (m.dl e.h)]) w')) (ds := [8]) #[ff,ff,ff,ff,ff,ff,ff,ff,ff] (by kernel_rfl) rfl rfl ⟨HJ.out.drew.cells.1, HJ.out.drew.cells.2.1, HJ.out.drew.cells.2.2, HJ.out.drew.md.look hkl _ rfl⟩ (fun hHeld => ?_)
 refine with_tabW doR.tab3 doR.bits3 (fun HT_ HW_ => ?_)
 have HJ3 := Aside0.mk HJ.out.drew
 generalize World.drew _ = w3 at HJ3 hHeld ⊢
 clear HJ hcx hce hlx hle hcm hlm
 have hlx := blk_lt HJ3.out.xb
 have hle := blk_lt HJ3.out.eb
 have hlm := HJ3.out.md.lt
 refine pure_ (i := 4) (N := (some 14)) (v := ?_) (a' := ?_) #[ff,ff,ff,ff,tt,ff,ff,ff,ff] rfl rfl (any_of HT_.out (by kernel_rfl)) (fun _ _ _ h => h) (Or.inl ⟨by rfl, ?_⟩) ?_ ?_
 rotate_left
 ·intro w'
  go_simp
  with_reducible rfl
 rotate_left
 ·simp only [Act.put, sQ0, sQ1, sQ2, i64_w]
  rfl
 refine take_ (i := 0) (N := (some 10)) (v := ?_) (a' := ?_) #[tt,ff,ff,ff,tt,ff,ff,ff,ff] rfl rfl (take_ofW HT_.out HW_.out (by kernel_rfl)) (fun _ _ _ h => h) (Or.inl ⟨by rfl, ?_⟩) hHeld ?_ ?_
 rotate_left
 ·rintro w' ⟨s0, s1, s2, s3⟩
  go_simp
  with_reducible rfl
 rotate_left
 ·simp only [Act.put, sQ0, sQ1, sQ2, i64_w]
  rfl
 refine pure_ (i := 1) (N := (some 11)) (v := ?_) (a' := ?_) #[tt,tt,ff,ff,tt,ff,ff,ff,ff] rfl rfl (any_of HT_.out (by kernel_rfl)) (fun _ _ _ h => h) (Or.inl ⟨by rfl, ?_⟩) ?_ ?_
 rotate_left
 ·intro w'
  go_simp
  with_reducible rfl
 rotate_left
 ·simp only [Act.put, sQ0, sQ1, sQ2, i64_w]
  rfl
 refine pure_ (i := 2) (N := (some 12)) (v := ?_) (a' := ?_) #[tt,tt,tt,ff,tt,ff,ff,ff,ff] rfl rfl (any_of HT_.out (by kernel_rfl)) (fun _ _ _ h => h) (Or.inl ⟨by rfl, ?_⟩) ?_ ?_
 rotate_left
 ·intro w'
  go_simp
  with_reducible rfl
 rotate_left
 ·simp only [Act.put, sQ0, sQ1, sQ2, i64_w]
  rfl
 refine take_ (i := 3) (N := (some 13)) (v := ?_) (a' := ?_) #[tt,tt,tt,tt,tt,ff,ff,ff,ff] rfl rfl (take_ofW HT_.out HW_.out (by kernel_rfl)) (fun _ _ _ h => h) (Or.inl ⟨by rfl, ?_⟩) hHeld ?_ ?_
 rotate_left
 ·rintro w' ⟨s0, s1, s2, s3⟩
  go_simp
  with_reducible rfl
 rotate_left
 ·simp only [Act.put, sQ0, sQ1, sQ2, i64_w]
  rfl
 refine take_ (i := 5) (N := (some 15)) (v := ?_) (a' := ?_) #[tt,tt,tt,tt,tt,tt,ff,ff,ff] rfl rfl (take_ofW HT_.out HW_.out (by kernel_rfl)) (fun _ _ _ h => h) (Or.inl ⟨by rfl, ?_⟩) hHeld ?_ ?_
 rotate_left
 ·rintro w' ⟨s0, s1, s2, s3⟩
  go_simp
  with_reducible rfl
 rotate_left
 ·simp only [Act.put, sQ0, sQ1, sQ2, i64_w]
  rfl
 refine take_ (i := 6) (N := (some 16)) (v := ?_) (a' := ?_) #[tt,tt,tt,tt,tt,tt,tt,ff,ff] rfl rfl (take_ofW HT_.out HW_.out (by kernel_rfl)) (fun _ _ _ h => h) (Or.inl ⟨by rfl, ?_⟩) hHeld ?_ ?_
 rotate_left
 ·rintro w' ⟨s0, s1, s2, s3⟩
  go_simp
  with_reducible rfl
 rotate_left
 ·simp only [Act.put, sQ0, sQ1, sQ2, i64_w]
  rfl
 refine one_ (i := 7) (N := (some 5)) #[tt,tt,tt,tt,tt,tt,tt,tt,ff] rfl rfl (one_of HT_.out (by kernel_rfl)) (by decide) (fun K hK => ?_)
 refine value_ (by rfl) rfl (v := .pointer (some ⟨w3.heap.size, 0, none⟩)) (w1 := w3.alloc (.cells #[.int .i64 0, .int .i64 0] 122)) (by go_simp <;> rfl) ?_
 refine hK.out _ _ ⟨(HJ3.out.alloc _).cells.1, (HJ3.out.alloc _).cells.2.1, (HJ3.out.alloc _).cells.2.2, (HJ3.out.alloc _).md.look hkl _ rfl⟩ (fun hHeld => ?_)
 clear hK K
 refine norm_ (a' := ?_) ?_ ?_
 rotate_left
 ·show Act.put _ (some 5) _ = _
  simp only [Act.put, sQ0, sQ1, sQ2, i64_w]
  rfl
 refine last_ (i := 8) (N := none) #[tt,tt,tt,tt,tt,tt,tt,tt,tt] rfl rfl (one_of HT_.out (by kernel_rfl)) (by decide) (fun K hK => ?_)
 refine skip_ (by rfl) rfl (w1 := w3.alloc (.cells #[.int .i64 (m.st e.h), .int .i64 (m.dl e.h)] 122)) (by go_simp <;> rfl) ?_
 refine hK.out _ _ ?_
 clear hK K
 refine done_ (done_of HT_.out (by kernel_rfl)) ?_
 clear hHeld
 have hcx := fun i => blk_cell (HJ3.out.alloc (.cells #[.int .i64 (m.st e.h), .int .i64 (m.dl e.h)] 122)).xb i
 have hce := fun i => blk_cell (HJ3.out.alloc (.cells #[.int .i64 (m.st e.h), .int .i64 (m.dl e.h)] 122)).eb i
 have hcm := fun i => (HJ3.out.alloc (.cells #[.int .i64 (m.st e.h), .int .i64 (m.dl e.h)] 122)).md.cell i
 have HK := Aside0.mk (show Dk w (w3.alloc (.cells #[.int .i64 (m.st e.h), .int .i64 (m.dl e.h)] 122)) B b n m1 m2 m e w3.heap.size from ⟨HJ3.out.alloc _, blk_new _ _⟩)
 clear hkl
 go_wp2
 go_ret
 exact DoPost.of HF.out rfl (HK.out.dj.md.up (by omega)) HK.out.dj.fr
theorem do_point {w : World} {B b n m1 m2 : Nat} {m : Md} (e : Ev) (hw : (Lit.int .i64 e.hn).wf = true ∧ (Lit.int .i64 e.hg).wf = true ∧ (Lit.int .i64 e.nn).wf = true ∧ (Lit.int .i64 e.ng).wf = true) (hn : n + 1 ≤ 1000000) (hwl : ∀ x, (Lit.int .i64 ((m.lst x).getD 0)).wf = true) (h : MdIs w B b n m m1 m2) (hr : rightJ e = true) (hk : e.k = 3) :
  Calls Try.prog 43 #[pA b, .agg (evA e)] w (DoPost w B b n m1 m2 (doF m e)) := by
 have hu0 := Try.underlying125
 have hu1 := Try.underlying34
 have hu2 := Try.underlying54
 have hu3 := Try.underlying122
 have hmf : ∀ (fn : Fn) (first cap : Array Value) (w : World), (Instr.makeFunc fn first cap).run Try.prog w = .ok (.func fn first cap) w := fun _ _ _ _ => rfl
 have HF := Aside0.mk (show doF m e = pointF m e by unfold doF; rw [if_neg (by rw [hr]; simp), if_neg (by omega), if_neg (by omega), if_pos hk])
 have k1 : (e.k == 1) = false := beq_eq_false_iff_ne.2 (by omega)
 have k4 : (e.k == 4) = false := beq_eq_false_iff_ne.2 (by omega)
 have k3 : (e.k == 3) = true := beq_iff_eq.2 (hk)
 have CR := Aside0.mk (fun W => right_run e W)
 rw [hr] at CR
 have HW := Aside0.mk hw
 have HN := Aside0.mk hn
 have HWL := Aside0.mk hwl
 have HJ := Aside0.mk (Dj.start h e)
 clear hw hn hwl h hr hk
 have hcx := fun i => blk_cell HJ.out.xb i
 have hce := fun i => blk_cell HJ.out.eb i
 have hlx := blk_lt HJ.out.xb
 have hle := blk_lt HJ.out.eb
 have hcm := fun i => HJ.out.md.cell i
 have hlm := HJ.out.md.lt
 go_enter Try.func43, Try.ntmps43
 go_wp2_with (first | (go_at_call 65; (with_reducible refine (CR.out _).mono ?_); rintro r w2 ⟨rfl, hb2⟩; have HJ2 := Aside0.mk (HJ.out.step hb2); clear hb2 hcx hce hlx hle hcm hlm; have HJ := HJ2; have hcx := fun i => blk_cell HJ.out.xb i; have hce := fun i => blk_cell HJ.out.eb i; have hlx := blk_lt HJ.out.xb; have hle := blk_lt HJ.out.eb; have hcm := fun i => HJ.out.md.cell i; have hlm := HJ.out.md.lt))
 obtain ⟨kl, hkl⟩ := keyH e.hn e.hg HW.out.1 HW.out.2.1
 refine start_ (n := 9) (S := (fun w' => (∀ i, w'.cell? ⟨b, i, none⟩ = (mdA m m1 m2)[i]?) ∧ (∀ i, w'.cell? ⟨w.heap.size, i, none⟩ = (#[pA b] : Array Value)[i]?) ∧ (∀ i, w'.cell? ⟨w.heap.size + 1, i, none⟩ = (evA e)[i]?) ∧ (Instr.lookup 123 (.map (some m1)) (haV e.h) false).run Try.prog w' = .ok (.agg #[.int .i64 (m.st e.h), .int .i64 (m.dl e.h)]) w')) (ds := [8]) #[ff,ff,ff,ff,ff,ff,ff,ff,ff] (by kernel_rfl) rfl rfl ⟨HJ.out.drew.cells.1, HJ.out.drew.cells.2.1, HJ.out.drew.cells.2.2, HJ.out.drew.md.look hkl _ rfl⟩ (fun hHeld => ?_)
 refine with_tabW doR.tab3 doR.bits3 (fun HT_ HW_ => ?_)
 have HJ3 := Aside0.mk HJ.out.drew
 generalize World.drew _ = w3 at HJ3 hHeld ⊢
 clear HJ hcx hce hlx hle hcm hlm
 have hlx := blk_lt HJ3.out.xb
 have hle := blk_lt HJ3.out.eb
 have hlm := HJ3.out.md.lt
 refine pure_ (i := 4) (N := (some 14)) (v := ?_) (a' := ?_) #[ff,ff,ff,ff,tt,ff,ff,ff,ff] rfl rfl (any_of HT_.out (by kernel_rfl)) (fun _ _ _ h => h) (Or.inl ⟨by rfl, ?_⟩) ?_ ?_
 rotate_left
 ·intro w'
  go_simp
  with_reducible rfl
 rotate_left
 ·simp only [Act.put, sQ0, sQ1, sQ2, i64_w]
  rfl
 refine take_ (i := 0) (N := (some 10)) (v := ?_) (a' := ?_) #[tt,ff,ff,ff,tt,ff,ff,ff,ff] rfl rfl (take_ofW HT_.out HW_.out (by kernel_rfl)) (fun _ _ _ h => h) (Or.inl ⟨by rfl, ?_⟩) hHeld ?_ ?_
 rotate_left
 ·rintro w' ⟨s0, s1, s2, s3⟩
  go_simp
  with_reducible rfl
 rotate_left
 ·simp only [Act.put, sQ0, sQ1, sQ2, i64_w]
  rfl
 refine pure_ (i := 1) (N := (some 11)) (v := ?_) (a' := ?_) #[tt,tt,ff,ff,tt,ff,ff,ff,ff] rfl rfl (any_of HT_.out (by kernel_rfl)) (fun _ _ _ h => h) (Or.inl ⟨by rfl, ?_⟩) ?_ ?_
 rotate_left
 ·intro w'
  go_simp
  with_reducible rfl
 rotate_left
 ·simp only [Act.put, sQ0, sQ1, sQ2, i64_w]
  rfl
 refine pure_ (i := 2) (N := (some 12)) (v := ?_) (a' := ?_) #[tt,tt,tt,ff,tt,ff,ff,ff,ff] rfl rfl (any_of HT_.out (by kernel_rfl)) (fun _ _ _ h => h) (Or.inl ⟨by rfl, ?_⟩) ?_ ?_
 rotate_left
 ·intro w'
  go_simp
  with_reducible rfl
 rotate_left
 ·simp only [Act.put, sQ0, sQ1, sQ2, i64_w]
  rfl
 refine take_ (i := 3) (N := (some 13)) (v := ?_) (a' := ?_) #[tt,tt,tt,tt,tt,ff,ff,ff,ff] rfl rfl (take_ofW HT_.out HW_.out (by kernel_rfl)) (fun _ _ _ h => h) (Or.inl ⟨by rfl, ?_⟩) hHeld ?_ ?_
 rotate_left
 ·rintro w' ⟨s0, s1, s2, s3⟩
  go_simp
  with_reducible rfl
 rotate_left
 ·simp only [Act.put, sQ0, sQ1, sQ2, i64_w]
  rfl
 refine take_ (i := 5) (N := (some 15)) (v := ?_) (a' := ?_) #[tt,tt,tt,tt,tt,tt,ff,ff,ff] rfl rfl (take_ofW HT_.out HW_.out (by kernel_rfl)) (fun _ _ _ h => h) (Or.inl ⟨by rfl, ?_⟩) hHeld ?_ ?_
 rotate_left
 ·rintro w' ⟨s0, s1, s2, s3⟩
  go_simp
  with_reducible rfl
 rotate_left
 ·simp only [Act.put, sQ0, sQ1, sQ2, i64_w]
  rfl
 refine take_ (i := 6) (N := (some 16)) (v := ?_) (a' := ?_) #[tt,tt,tt,tt,tt,tt,tt,ff,ff] rfl rfl (take_ofW HT_.out HW_.out (by kernel_rfl)) (fun _ _ _ h => h) (Or.inl ⟨by rfl, ?_⟩) hHeld ?_ ?_
 rotate_left
 ·rintro w' ⟨s0, s1, s2, s3⟩
  go_simp
  with_reducible rfl
 rotate_left
 ·simp only [Act.put, sQ0, sQ1, sQ2, i64_w]
  rfl
 refine one_ (i := 7) (N := (some 5)) #[tt,tt,tt,tt,tt,tt,tt,tt,ff] rfl rfl (one_of HT_.out (by kernel_rfl)) (by decide) (fun K hK => ?_)
 refine value_ (by rfl) rfl (v := .pointer (some ⟨w3.heap.size, 0, none⟩)) (w1 := w3.alloc (.cells #[.int .i64 0, .int .i64 0] 122)) (by go_simp <;> rfl) ?_
 refine hK.out _ _ ⟨(HJ3.out.alloc _).cells.1, (HJ3.out.alloc _).cells.2.1, (HJ3.out.alloc _).cells.2.2, (HJ3.out.alloc _).md.look hkl _ rfl⟩ (fun hHeld => ?_)
 clear hK K
 refine norm_ (a' := ?_) ?_ ?_
 rotate_left
 ·show Act.put _ (some 5) _ = _
  simp only [Act.put, sQ0, sQ1, sQ2, i64_w]
  rfl
 refine last_ (i := 8) (N := none) #[tt,tt,tt,tt,tt,tt,tt,tt,tt] rfl rfl (one_of HT_.out (by kernel_rfl)) (by decide) (fun K hK => ?_)
 refine skip_ (by rfl) rfl (w1 := w3.alloc (.cells #[.int .i64 (m.st e.h), .int .i64 (m.dl e.h)] 122)) (by go_simp <;> rfl) ?_
 refine hK.out _ _ ?_
 clear hK K
 refine done_ (done_of HT_.out (by kernel_rfl)) ?_
 clear hHeld
 have hcx := fun i => blk_cell (HJ3.out.alloc (.cells #[.int .i64 (m.st e.h), .int .i64 (m.dl e.h)] 122)).xb i
 have hce := fun i => blk_cell (HJ3.out.alloc (.cells #[.int .i64 (m.st e.h), .int .i64 (m.dl e.h)] 122)).eb i
 have hcm := fun i => (HJ3.out.alloc (.cells #[.int .i64 (m.st e.h), .int .i64 (m.dl e.h)] 122)).md.cell i
 have HK := Aside0.mk (show Dk w (w3.alloc (.cells #[.int .i64 (m.st e.h), .int .i64 (m.dl e.h)] 122)) B b n m1 m2 m e w3.heap.size from ⟨HJ3.out.alloc _, blk_new _ _⟩)
 clear hkl
 have CP : Aside0 (∀ W, Dk w W B b n m1 m2 m e w3.heap.size → Calls Try.prog 76 #[pA b, .agg (evA e), .bool (m.st e.h == 1)] W (DoPost W B b n m1 m2 (pointF m e))) := ⟨fun W hW => point_any e HW.out HN.out HWL.out hW.dj.md⟩
 go_wp2_with (go_at_call 76; (with_reducible refine (CP.out _ HK.out).mono ?_); rintro r w4 ⟨rfl, hm, hf⟩; have HM := Aside0.mk (And.intro hm (HK.out.dj.fr.trans hf)); clear hm hf)
 go_ret
 exact DoPost.of HF.out rfl HM.out.1 HM.out.2
theorem do_tick {w : World} {B b n m1 m2 : Nat} {m : Md} (e : Ev) (hw : (Lit.int .i64 e.hn).wf = true ∧ (Lit.int .i64 e.hg).wf = true ∧ (Lit.int .i64 e.nn).wf = true ∧ (Lit.int .i64 e.ng).wf = true) (hn : n + 1 ≤ 1000000) (hwl : ∀ x, (Lit.int .i64 ((m.lst x).getD 0)).wf = true) (h : MdIs w B b n m m1 m2) (hr : rightJ e = true) (hk : e.k = 1) :
  Calls Try.prog 43 #[pA b, .agg (evA e)] w (DoPost w B b n m1 m2 (doF m e)) := by
 have hu0 := Try.underlying125
 have hu1 := Try.underlying34
 have hu2 := Try.underlying54
 have hu3 := Try.underlying122
 have hmf : ∀ (fn : Fn) (first cap : Array Value) (w : World), (Instr.makeFunc fn first cap).run Try.prog w = .ok (.func fn first cap) w := fun _ _ _ _ => rfl
 have HF := Aside0.mk (show doF m e = unF (e.t == wrap64 (m.clk + 1)) { m with clk := e.t } m by unfold doF; rw [if_neg (by rw [hr]; simp), if_pos hk]; unfold unF; by_cases ht : e.t = wrap64 (m.clk + 1) <;> simp [ht])
 have k1 : (e.k == 1) = true := beq_iff_eq.2 (hk)
 have k4 : (e.k == 4) = false := beq_eq_false_iff_ne.2 (by omega)
 have k3 : (e.k == 3) = false := beq_eq_false_iff_ne.2 (by omega)
 have CR := Aside0.mk (fun W => right_run e W)
 rw [hr] at CR
 have HW := Aside0.mk hw
 have HN := Aside0.mk hn
 have HWL := Aside0.mk hwl
 have HJ := Aside0.mk (Dj.start h e)
 clear hw hn hwl h hr hk
 have hcx := fun i => blk_cell HJ.out.xb i
 have hce := fun i => blk_cell HJ.out.eb i
 have hlx := blk_lt HJ.out.xb
 have hle := blk_lt HJ.out.eb
 have hcm := fun i => HJ.out.md.cell i
 have hlm := HJ.out.md.lt
 go_enter Try.func43, Try.ntmps43
 go_wp2_with (first | (go_at_call 65; (with_reducible refine (CR.out _).mono ?_); rintro r w2 ⟨rfl, hb2⟩; have HJ2 := Aside0.mk (HJ.out.step hb2); clear hb2 hcx hce hlx hle hcm hlm; have HJ := HJ2; have hcx := fun i => blk_cell HJ.out.xb i; have hce := fun i => blk_cell HJ.out.eb i; have hlx := blk_lt HJ.out.xb; have hle := blk_lt HJ.out.eb; have hcm := fun i => HJ.out.md.cell i; have hlm := HJ.out.md.lt))
 obtain ⟨kl, hkl⟩ := keyH e.hn e.hg HW.out.1 HW.out.2.1
 refine start_ (n := 9) (S := (fun w' => (∀ i, w'.cell? ⟨b, i, none⟩ = (mdA m m1 m2)[i]?) ∧ (∀ i, w'.cell? ⟨w.heap.size, i, none⟩ = (#[pA b] : Array Value)[i]?) ∧ (∀ i, w'.cell? ⟨w.heap.size + 1, i, none⟩ = (evA e)[i]?) ∧ (Instr.lookup 123 (.map (some m1)) (haV e.h) false).run Try.prog w' = .ok (.agg #[.int .i64 (m.st e.h), .int .i64 (m.dl e.h)]) w')) (ds := [8]) #[ff,ff,ff,ff,ff,ff,ff,ff,ff] (by kernel_rfl) rfl rfl ⟨HJ.out.drew.cells.1, HJ.out.drew.cells.2.1, HJ.out.drew.cells.2.2, HJ.out.drew.md.look hkl _ rfl⟩ (fun hHeld => ?_)
 refine with_tabW doR.tab3 doR.bits3 (fun HT_ HW_ => ?_)
 have HJ3 := Aside0.mk HJ.out.drew
 generalize World.drew _ = w3 at HJ3 hHeld ⊢
 clear HJ hcx hce hlx hle hcm hlm
 have hlx := blk_lt HJ3.out.xb
 have hle := blk_lt HJ3.out.eb
 have hlm := HJ3.out.md.lt
 refine pure_ (i := 4) (N := (some 14)) (v := ?_) (a' := ?_) #[ff,ff,ff,ff,tt,ff,ff,ff,ff] rfl rfl (any_of HT_.out (by kernel_rfl)) (fun _ _ _ h => h) (Or.inl ⟨by rfl, ?_⟩) ?_ ?_
 rotate_left
 ·intro w'
  go_simp
  with_reducible rfl
 rotate_left
 ·simp only [Act.put, sQ0, sQ1, sQ2, i64_w]
  rfl
 refine take_ (i := 0) (N := (some 10)) (v := ?_) (a' := ?_) #[tt,ff,ff,ff,tt,ff,ff,ff,ff] rfl rfl (take_ofW HT_.out HW_.out (by kernel_rfl)) (fun _ _ _ h => h) (Or.inl ⟨by rfl, ?_⟩) hHeld ?_ ?_
 rotate_left
 ·rintro w' ⟨s0, s1, s2, s3⟩
  go_simp
  with_reducible rfl
 rotate_left
 ·simp only [Act.put, sQ0, sQ1, sQ2, i64_w]
  rfl
 refine pure_ (i := 1) (N := (some 11)) (v := ?_) (a' := ?_) #[tt,tt,ff,ff,tt,ff,ff,ff,ff] rfl rfl (any_of HT_.out (by kernel_rfl)) (fun _ _ _ h => h) (Or.inl ⟨by rfl, ?_⟩) ?_ ?_
 rotate_left
 ·intro w'
  go_simp
  with_reducible rfl
 rotate_left
 ·simp only [Act.put, sQ0, sQ1, sQ2, i64_w]
  rfl
 refine pure_ (i := 2) (N := (some 12)) (v := ?_) (a' := ?_) #[tt,tt,tt,ff,tt,ff,ff,ff,ff] rfl rfl (any_of HT_.out (by kernel_rfl)) (fun _ _ _ h => h) (Or.inl ⟨by rfl, ?_⟩) ?_ ?_
 rotate_left
 ·intro w'
  go_simp
  with_reducible rfl
 rotate_left
 ·simp only [Act.put, sQ0, sQ1, sQ2, i64_w]
  rfl
 refine take_ (i := 3) (N := (some 13)) (v := ?_) (a' := ?_) #[tt,tt,tt,tt,tt,ff,ff,ff,ff] rfl rfl (take_ofW HT_.out HW_.out (by kernel_rfl)) (fun _ _ _ h => h) (Or.inl ⟨by rfl, ?_⟩) hHeld ?_ ?_
 rotate_left
 ·rintro w' ⟨s0, s1, s2, s3⟩
  go_simp
  with_reducible rfl
 rotate_left
 ·simp only [Act.put, sQ0, sQ1, sQ2, i64_w]
  rfl
 refine take_ (i := 5) (N := (some 15)) (v := ?_) (a' := ?_) #[tt,tt,tt,tt,tt,tt,ff,ff,ff] rfl rfl (take_ofW HT_.out HW_.out (by kernel_rfl)) (fun _ _ _ h => h) (Or.inl ⟨by rfl, ?_⟩) hHeld ?_ ?_
 rotate_left
 ·rintro w' ⟨s0, s1, s2, s3⟩
  go_simp
  with_reducible rfl
 rotate_left
 ·simp only [Act.put, sQ0, sQ1, sQ2, i64_w]
  rfl
 refine take_ (i := 6) (N := (some 16)) (v := ?_) (a' := ?_) #[tt,tt,tt,tt,tt,tt,tt,ff,ff] rfl rfl (take_ofW HT_.out HW_.out (by kernel_rfl)) (fun _ _ _ h => h) (Or.inl ⟨by rfl, ?_⟩) hHeld ?_ ?_
 rotate_left
 ·rintro w' ⟨s0, s1, s2, s3⟩
  go_simp
  with_reducible rfl
 rotate_left
 ·simp only [Act.put, sQ0, sQ1, sQ2, i64_w]
  rfl
 refine one_ (i := 7) (N := (some 5)) #[tt,tt,tt,tt,tt,tt,tt,tt,ff] rfl rfl (one_of HT_.out (by kernel_rfl)) (by decide) (fun K hK => ?_)
 refine value_ (by rfl) rfl (v := .pointer (some ⟨w3.heap.size, 0, none⟩)) (w1 := w3.alloc (.cells #[.int .i64 0, .int .i64 0] 122)) (by go_simp <;> rfl) ?_
 refine hK.out _ _ ⟨(HJ3.out.alloc _).cells.1, (HJ3.out.alloc _).cells.2.1, (HJ3.out.alloc _).cells.2.2, (HJ3.out.alloc _).md.look hkl _ rfl⟩ (fun hHeld => ?_)
 clear hK K
 refine norm_ (a' := ?_) ?_ ?_
 rotate_left
 ·show Act.put _ (some 5) _ = _
  simp only [Act.put, sQ0, sQ1, sQ2, i64_w]
  rfl
 refine last_ (i := 8) (N := none) #[tt,tt,tt,tt,tt,tt,tt,tt,tt] rfl rfl (one_of HT_.out (by kernel_rfl)) (by decide) (fun K hK => ?_)
 refine skip_ (by rfl) rfl (w1 := w3.alloc (.cells #[.int .i64 (m.st e.h), .int .i64 (m.dl e.h)] 122)) (by go_simp <;> rfl) ?_
 refine hK.out _ _ ?_
 clear hK K
 refine done_ (done_of HT_.out (by kernel_rfl)) ?_
 clear hHeld
 have hcx := fun i => blk_cell (HJ3.out.alloc (.cells #[.int .i64 (m.st e.h), .int .i64 (m.dl e.h)] 122)).xb i
 have hce := fun i => blk_cell (HJ3.out.alloc (.cells #[.int .i64 (m.st e.h), .int .i64 (m.dl e.h)] 122)).eb i
 have hcm := fun i => (HJ3.out.alloc (.cells #[.int .i64 (m.st e.h), .int .i64 (m.dl e.h)] 122)).md.cell i
 have HK := Aside0.mk (show Dk w (w3.alloc (.cells #[.int .i64 (m.st e.h), .int .i64 (m.dl e.h)] 122)) B b n m1 m2 m e w3.heap.size from ⟨HJ3.out.alloc _, blk_new _ _⟩)
 clear hkl
 go_upto_region 7 with (fail)
 refine gen_world' (fun W => Dk w W B b n m1 m2 m e w3.heap.size) (by exact HK.out) fun w4 HK4 => ?_
 obtain ⟨fb, hfb⟩ : ∃ fb, w3.heap.size = fb := ⟨_, rfl⟩
 rw [hfb] at HK4 ⊢
 have HK5 := Aside0.mk HK4.drew
 clear HK hfb HK4 hcx hce hlx hle hcm hlm
 refine start_ (n := 11) (S := (fun w' => (∀ i, w'.cell? ⟨b, i, none⟩ = (mdA m m1 m2)[i]?) ∧ (∀ i, w'.cell? ⟨w.heap.size, i, none⟩ = (#[pA b] : Array Value)[i]?) ∧ (∀ i, w'.cell? ⟨w.heap.size + 1, i, none⟩ = (evA e)[i]?) ∧ (∀ i, w'.cell? ⟨fb, i, none⟩ = (#[.int .i64 (m.st e.h), .int .i64 (m.dl e.h)] : Array Value)[i]?))) (ds := [9]) #[ff,ff,ff,ff,ff,ff,ff,ff,ff,ff,ff] (by kernel_rfl) rfl rfl HK5.out.cells (fun hHeld => ?_)
 refine with_tabW doR.tab7 doR.bits7 (fun HT_ HW_ => ?_)
 have HK6 := HK5
 generalize w4.drew = w5 at HK5 HK6 hHeld ⊢
 clear HK5
 have hlm := HK6.out.dj.md.lt
 have hlx := blk_lt HK6.out.dj.xb
 have hle := blk_lt HK6.out.dj.eb
 have hlf := blk_lt HK6.out.fb
 refine pure_ (i := 0) (N := (some 24)) (v := ?_) (a' := ?_) #[tt,ff,ff,ff,ff,ff,ff,ff,ff,ff,ff] rfl rfl (any_of HT_.out (by kernel_rfl)) (fun _ _ _ h => h) (Or.inl ⟨by rfl, ?_⟩) ?_ ?_
 rotate_left
 ·intro w'
  go_simp
  with_reducible rfl
 rotate_left
 ·simp only [Act.put, sQ0, sQ1, sQ2, i64_w]
  rfl
 refine pure_ (i := 8) (N := (some 32)) (v := ?_) (a' := ?_) #[tt,ff,ff,ff,ff,ff,ff,ff,tt,ff,ff] rfl rfl (any_of HT_.out (by kernel_rfl)) (fun _ _ _ h => h) (Or.inl ⟨by rfl, ?_⟩) ?_ ?_
 rotate_left
 ·intro w'
  go_simp
  with_reducible rfl
 rotate_left
 ·simp only [Act.put, sQ0, sQ1, sQ2, i64_w]
  rfl
 refine take_ (i := 1) (N := (some 25)) (v := ?_) (a' := ?_) #[tt,tt,ff,ff,ff,ff,ff,ff,tt,ff,ff] rfl rfl (take_ofW HT_.out HW_.out (by kernel_rfl)) (fun _ _ _ h => h) (Or.inl ⟨by rfl, ?_⟩) hHeld ?_ ?_
 rotate_left
 ·rintro w' ⟨s0, s1, s2, s3⟩
  go_simp
  with_reducible rfl
 rotate_left
 ·simp only [Act.put, sQ0, sQ1, sQ2, i64_w]
  rfl
 refine take_ (i := 2) (N := (some 26)) (v := ?_) (a' := ?_) #[tt,tt,tt,ff,ff,ff,ff,ff,tt,ff,ff] rfl rfl (take_ofW HT_.out HW_.out (by kernel_rfl)) (fun _ _ _ h => h) (Or.inl ⟨by rfl, ?_⟩) hHeld ?_ ?_
 rotate_left
 ·rintro w' ⟨s0, s1, s2, s3⟩
  go_simp
  with_reducible rfl
 rotate_left
 ·simp only [Act.put, sQ0, sQ1, sQ2, i64_w]
  rfl
 refine pure_ (i := 3) (N := (some 27)) (v := ?_) (a' := ?_) #[tt,tt,tt,tt,ff,ff,ff,ff,tt,ff,ff] rfl rfl (any_of HT_.out (by kernel_rfl)) (fun _ _ _ h => h) (Or.inl ⟨by rfl, ?_⟩) ?_ ?_
 rotate_left
 ·intro w'
  go_simp
  with_reducible rfl
 rotate_left
 ·simp only [Act.put, sQ0, sQ1, sQ2, i64_w]
  rfl
 refine pure_ (i := 4) (N := (some 28)) (v := ?_) (a' := ?_) #[tt,tt,tt,tt,tt,ff,ff,ff,tt,ff,ff] rfl rfl (any_of HT_.out (by kernel_rfl)) (fun _ _ _ h => h) (Or.inl ⟨by rfl, ?_⟩) ?_ ?_
 rotate_left
 ·intro w'
  go_simp
  with_reducible rfl
 rotate_left
 ·simp only [Act.put, sQ0, sQ1, sQ2, i64_w]
  rfl
 refine take_ (i := 5) (N := (some 29)) (v := ?_) (a' := ?_) #[tt,tt,tt,tt,tt,tt,ff,ff,tt,ff,ff] rfl rfl (take_ofW HT_.out HW_.out (by kernel_rfl)) (fun _ _ _ h => h) (Or.inl ⟨by rfl, ?_⟩) hHeld ?_ ?_
 rotate_left
 ·rintro w' ⟨s0, s1, s2, s3⟩
  go_simp
  with_reducible rfl
 rotate_left
 ·simp only [Act.put, sQ0, sQ1, sQ2, i64_w]
  rfl
 refine pure_ (i := 6) (N := (some 30)) (v := ?_) (a' := ?_) #[tt,tt,tt,tt,tt,tt,tt,ff,tt,ff,ff] rfl rfl (any_of HT_.out (by kernel_rfl)) (fun _ _ _ h => h) (Or.inl ⟨by rfl, ?_⟩) ?_ ?_
 rotate_left
 ·intro w'
  go_simp
  with_reducible rfl
 rotate_left
 ·simp only [Act.put, sQ0, sQ1, sQ2, i64_w]
  rfl
 refine pure_ (i := 7) (N := (some 31)) (v := ?_) (a' := ?_) #[tt,tt,tt,tt,tt,tt,tt,tt,tt,ff,ff] rfl rfl (any_of HT_.out (by kernel_rfl)) (fun _ _ _ h => h) (Or.inl ⟨by rfl, ?_⟩) ?_ ?_
 rotate_left
 ·intro w'
  go_simp
  with_reducible rfl
 rotate_left
 ·simp only [Act.put, sQ0, sQ1, sQ2, i64_w]
  rfl
 refine last_ (i := 9) (N := (some 33)) #[tt,tt,tt,tt,tt,tt,tt,tt,tt,tt,ff] rfl rfl (one_of HT_.out (by kernel_rfl)) (by decide) (fun K hK => ?_)
 refine call_ (f := 73) #[.bool (e.t == wrap64 (m.clk + 1)), .func (.func 74) #[] #[pA (w.heap.size + 1), pA w.heap.size]] (by rfl) rfl (by go_simp <;> rfl) ?_
 refine (un_tick (e.t == wrap64 (m.clk + 1)) HK6.out.dj.md HK6.out.dj.eb HK6.out.dj.xb).mono ?_
 rintro r w6 ⟨rfl, hm, hf⟩
 refine ⟨_, rfl, ?_⟩
 have HM := Aside0.mk (And.intro hm (HK6.out.dj.fr.trans hf))
 clear hm hf
 refine hK.out _ _ ?_
 clear hK K
 refine norm_ (a' := ?_) ?_ ?_
 rotate_left
 ·show Act.put _ (some 33) _ = _
  simp only [Act.put, sQ0, sQ1, sQ2, i64_w]
  rfl
 refine pure_ (i := 10) (N := (some 4)) (v := ?_) (a' := ?_) #[tt,tt,tt,tt,tt,tt,tt,tt,tt,tt,tt] rfl rfl (any_of HT_.out (by kernel_rfl)) (fun _ _ _ h => h) (Or.inl ⟨by rfl, ?_⟩) ?_ ?_
 rotate_left
 ·intro w'
  go_simp
  with_reducible rfl
 rotate_left
 ·simp only [Act.put, sQ0, sQ1, sQ2, i64_w]
  rfl
 refine done_ (done_of HT_.out (by kernel_rfl)) ?_
 go_wp2
 go_ret
 exact DoPost.of HF.out rfl HM.out.1 HM.out.2
theorem do_fire_no {w : World} {B b n m1 m2 : Nat} {m : Md} (e : Ev) (hw : (Lit.int .i64 e.hn).wf = true ∧ (Lit.int .i64 e.hg).wf = true ∧ (Lit.int .i64 e.nn).wf = true ∧ (Lit.int .i64 e.ng).wf = true) (hn : n + 1 ≤ 1000000) (hwl : ∀ x, (Lit.int .i64 ((m.lst x).getD 0)).wf = true) (h : MdIs w B b n m m1 m2) (hr : rightJ e = true) (hk : e.k = 4) (ha : ¬ m.st e.h = 1) :
  Calls Try.prog 43 #[pA b, .agg (evA e)] w (DoPost w B b n m1 m2 (doF m e)) := by
 have hu0 := Try.underlying125
 have hu1 := Try.underlying34
 have hu2 := Try.underlying54
 have hu3 := Try.underlying122
 have hmf : ∀ (fn : Fn) (first cap : Array Value) (w : World), (Instr.makeFunc fn first cap).run Try.prog w = .ok (.func fn first cap) w := fun _ _ _ _ => rfl
 have HF := Aside0.mk (show doF m e = unF false (m.end_ e.h 2) m by unfold doF; rw [if_neg (by rw [hr]; simp), if_neg (by omega), if_pos hk]; rw [if_neg (fun q => ha q.1)]; rfl)
 have k1 : (e.k == 1) = false := beq_eq_false_iff_ne.2 (by omega)
 have k4 : (e.k == 4) = true := beq_iff_eq.2 (hk)
 have k3 : (e.k == 3) = false := beq_eq_false_iff_ne.2 (by omega)
 have a1 : ((m.st e.h) == 1) = false := beq_eq_false_iff_ne.2 (ha)
 have CR := Aside0.mk (fun W => right_run e W)
 rw [hr] at CR
 have HW := Aside0.mk hw
 have HN := Aside0.mk hn
 have HWL := Aside0.mk hwl
 have HJ := Aside0.mk (Dj.start h e)
 clear hw hn hwl h hr hk ha
 have hcx := fun i => blk_cell HJ.out.xb i
 have hce := fun i => blk_cell HJ.out.eb i
 have hlx := blk_lt HJ.out.xb
 have hle := blk_lt HJ.out.eb
 have hcm := fun i => HJ.out.md.cell i
 have hlm := HJ.out.md.lt
 go_enter Try.func43, Try.ntmps43
 go_wp2_with (first | (go_at_call 65; (with_reducible refine (CR.out _).mono ?_); rintro r w2 ⟨rfl, hb2⟩; have HJ2 := Aside0.mk (HJ.out.step hb2); clear hb2 hcx hce hlx hle hcm hlm; have HJ := HJ2; have hcx := fun i => blk_cell HJ.out.xb i; have hce := fun i => blk_cell HJ.out.eb i; have hlx := blk_lt HJ.out.xb; have hle := blk_lt HJ.out.eb; have hcm := fun i => HJ.out.md.cell i; have hlm := HJ.out.md.lt))
 obtain ⟨kl, hkl⟩ := keyH e.hn e.hg HW.out.1 HW.out.2.1
 refine start_ (n := 9) (S := (fun w' => (∀ i, w'.cell? ⟨b, i, none⟩ = (mdA m m1 m2)[i]?) ∧ (∀ i, w'.cell? ⟨w.heap.size, i, none⟩ = (#[pA b] : Array Value)[i]?) ∧ (∀ i, w'.cell? ⟨w.heap.size + 1, i, none⟩ = (evA e)[i]?) ∧ (Instr.lookup 123 (.map (some m1)) (haV e.h) false).run Try.prog w' = .ok (.agg #[.int .i64 (m.st e.h), .int .i64 (m.dl e.h)]) w')) (ds := [8]) #[ff,ff,ff,ff,ff,ff,ff,ff,ff] (by kernel_rfl) rfl rfl ⟨HJ.out.drew.cells.1, HJ.out.drew.cells.2.1, HJ.out.drew.cells.2.2, HJ.out.drew.md.look hkl _ rfl⟩ (fun hHeld => ?_)
 refine with_tabW doR.tab3 doR.bits3 (fun HT_ HW_ => ?_)
 have HJ3 := Aside0.mk HJ.out.drew
 generalize World.drew _ = w3 at HJ3 hHeld ⊢
 clear HJ hcx hce hlx hle hcm hlm
 have hlx := blk_lt HJ3.out.xb
 have hle := blk_lt HJ3.out.eb
 have hlm := HJ3.out.md.lt
 refine pure_ (i := 4) (N := (some 14)) (v := ?_) (a' := ?_) #[ff,ff,ff,ff,tt,ff,ff,ff,ff] rfl rfl (any_of HT_.out (by kernel_rfl)) (fun _ _ _ h => h) (Or.inl ⟨by rfl, ?_⟩) ?_ ?_
 rotate_left
 ·intro w'
  go_simp
  with_reducible rfl
 rotate_left
 ·simp only [Act.put, sQ0, sQ1, sQ2, i64_w]
  rfl
 refine take_ (i := 0) (N := (some 10)) (v := ?_) (a' := ?_) #[tt,ff,ff,ff,tt,ff,ff,ff,ff] rfl rfl (take_ofW HT_.out HW_.out (by kernel_rfl)) (fun _ _ _ h => h) (Or.inl ⟨by rfl, ?_⟩) hHeld ?_ ?_
 rotate_left
 ·rintro w' ⟨s0, s1, s2, s3⟩
  go_simp
  with_reducible rfl
 rotate_left
 ·simp only [Act.put, sQ0, sQ1, sQ2, i64_w]
  rfl
 refine pure_ (i := 1) (N := (some 11)) (v := ?_) (a' := ?_) #[tt,tt,ff,ff,tt,ff,ff,ff,ff] rfl rfl (any_of HT_.out (by kernel_rfl)) (fun _ _ _ h => h) (Or.inl ⟨by rfl, ?_⟩) ?_ ?_
 rotate_left
 ·intro w'
  go_simp
  with_reducible rfl
 rotate_left
 ·simp only [Act.put, sQ0, sQ1, sQ2, i64_w]
  rfl
 refine pure_ (i := 2) (N := (some 12)) (v := ?_) (a' := ?_) #[tt,tt,tt,ff,tt,ff,ff,ff,ff] rfl rfl (any_of HT_.out (by kernel_rfl)) (fun _ _ _ h => h) (Or.inl ⟨by rfl, ?_⟩) ?_ ?_
 rotate_left
 ·intro w'
  go_simp
  with_reducible rfl
 rotate_left
 ·simp only [Act.put, sQ0, sQ1, sQ2, i64_w]
  rfl
 refine take_ (i := 3) (N := (some 13)) (v := ?_) (a' := ?_) #[tt,tt,tt,tt,tt,ff,ff,ff,ff] rfl rfl (take_ofW HT_.out HW_.out (by kernel_rfl)) (fun _ _ _ h => h) (Or.inl ⟨by rfl, ?_⟩) hHeld ?_ ?_
 rotate_left
 ·rintro w' ⟨s0, s1, s2, s3⟩
  go_simp
  with_reducible rfl
 rotate_left
 ·simp only [Act.put, sQ0, sQ1, sQ2, i64_w]
  rfl
 refine take_ (i := 5) (N := (some 15)) (v := ?_) (a' := ?_) #[tt,tt,tt,tt,tt,tt,ff,ff,ff] rfl rfl (take_ofW HT_.out HW_.out (by kernel_rfl)) (fun _ _ _ h => h) (Or.inl ⟨by rfl, ?_⟩) hHeld ?_ ?_
 rotate_left
 ·rintro w' ⟨s0, s1, s2, s3⟩
  go_simp
  with_reducible rfl
 rotate_left
 ·simp only [Act.put, sQ0, sQ1, sQ2, i64_w]
  rfl
 refine take_ (i := 6) (N := (some 16)) (v := ?_) (a' := ?_) #[tt,tt,tt,tt,tt,tt,tt,ff,ff] rfl rfl (take_ofW HT_.out HW_.out (by kernel_rfl)) (fun _ _ _ h => h) (Or.inl ⟨by rfl, ?_⟩) hHeld ?_ ?_
 rotate_left
 ·rintro w' ⟨s0, s1, s2, s3⟩
  go_simp
  with_reducible rfl
 rotate_left
 ·simp only [Act.put, sQ0, sQ1, sQ2, i64_w]
  rfl
 refine one_ (i := 7) (N := (some 5)) #[tt,tt,tt,tt,tt,tt,tt,tt,ff] rfl rfl (one_of HT_.out (by kernel_rfl)) (by decide) (fun K hK => ?_)
 refine value_ (by rfl) rfl (v := .pointer (some ⟨w3.heap.size, 0, none⟩)) (w1 := w3.alloc (.cells #[.int .i64 0, .int .i64 0] 122)) (by go_simp <;> rfl) ?_
 refine hK.out _ _ ⟨(HJ3.out.alloc _).cells.1, (HJ3.out.alloc _).cells.2.1, (HJ3.out.alloc _).cells.2.2, (HJ3.out.alloc _).md.look hkl _ rfl⟩ (fun hHeld => ?_)
 clear hK K
 refine norm_ (a' := ?_) ?_ ?_
 rotate_left
 ·show Act.put _ (some 5) _ = _
  simp only [Act.put, sQ0, sQ1, sQ2, i64_w]
  rfl
 refine last_ (i := 8) (N := none) #[tt,tt,tt,tt,tt,tt,tt,tt,tt] rfl rfl (one_of HT_.out (by kernel_rfl)) (by decide) (fun K hK => ?_)
 refine skip_ (by rfl) rfl (w1 := w3.alloc (.cells #[.int .i64 (m.st e.h), .int .i64 (m.dl e.h)] 122)) (by go_simp <;> rfl) ?_
 refine hK.out _ _ ?_
 clear hK K
 refine done_ (done_of HT_.out (by kernel_rfl)) ?_
 clear hHeld
 have hcx := fun i => blk_cell (HJ3.out.alloc (.cells #[.int .i64 (m.st e.h), .int .i64 (m.dl e.h)] 122)).xb i
 have hce := fun i => blk_cell (HJ3.out.alloc (.cells #[.int .i64 (m.st e.h), .int .i64 (m.dl e.h)] 122)).eb i
 have hcm := fun i => (HJ3.out.alloc (.cells #[.int .i64 (m.st e.h), .int .i64 (m.dl e.h)] 122)).md.cell i
 have HK := Aside0.mk (show Dk w (w3.alloc (.cells #[.int .i64 (m.st e.h), .int .i64 (m.dl e.h)] 122)) B b n m1 m2 m e w3.heap.size from ⟨HJ3.out.alloc _, blk_new _ _⟩)
 clear hkl
 go_upto_region 9 with (fail)
 refine gen_world' (fun W => Dk w W B b n m1 m2 m e w3.heap.size) (by exact HK.out) fun w4 HK4 => ?_
 obtain ⟨fb, hfb⟩ : ∃ fb, w3.heap.size = fb := ⟨_, rfl⟩
 rw [hfb] at HK4 ⊢
 have HK5 := Aside0.mk HK4.drew
 clear HK hfb HK4 hcx hce hlx hle hcm hlm
 refine start_ (n := 23) (S := (fun w' => (∀ i, w'.cell? ⟨b, i, none⟩ = (mdA m m1 m2)[i]?) ∧ (∀ i, w'.cell? ⟨w.heap.size, i, none⟩ = (#[pA b] : Array Value)[i]?) ∧ (∀ i, w'.cell? ⟨w.heap.size + 1, i, none⟩ = (evA e)[i]?) ∧ (∀ i, w'.cell? ⟨fb, i, none⟩ = (#[.int .i64 (m.st e.h), .int .i64 (m.dl e.h)] : Array Value)[i]?))) (ds := [21]) #[ff,ff,ff,ff,ff,ff,ff,ff,ff,ff,ff,ff,ff,ff,ff,ff,ff,ff,ff,ff,ff,ff,ff] (by kernel_rfl) rfl rfl HK5.out.cells (fun hHeld => ?_)
 refine with_tabW doR.tab9 doR.bits9 (fun HT_ HW_ => ?_)
 have HK6 := HK5
 generalize w4.drew = w5 at HK5 HK6 hHeld ⊢
 clear HK5
 have hlm := HK6.out.dj.md.lt
 have hlx := blk_lt HK6.out.dj.xb
 have hle := blk_lt HK6.out.dj.eb
 have hlf := blk_lt HK6.out.fb
 refine pure_ (i := 0) (N := (some 36)) (v := ?_) (a' := ?_) #[tt,ff,ff,ff,ff,ff,ff,ff,ff,ff,ff,ff,ff,ff,ff,ff,ff,ff,ff,ff,ff,ff,ff] rfl rfl (any_of HT_.out (by kernel_rfl)) (fun _ _ _ h => h) (Or.inl ⟨by rfl, ?_⟩) ?_ ?_
 rotate_left
 ·intro w'
  go_simp
  with_reducible rfl
 rotate_left
 ·simp only [Act.put, sQ0, sQ1, sQ2, i64_w]
  rfl
 refine pure_ (i := 1) (N := (some 37)) (v := ?_) (a' := ?_) #[tt,tt,ff,ff,ff,ff,ff,ff,ff,ff,ff,ff,ff,ff,ff,ff,ff,ff,ff,ff,ff,ff,ff] rfl rfl (any_of HT_.out (by kernel_rfl)) (fun _ _ _ h => h) (Or.inl ⟨by rfl, ?_⟩) ?_ ?_
 rotate_left
 ·intro w'
  go_simp
  with_reducible rfl
 rotate_left
 ·simp only [Act.put, sQ0, sQ1, sQ2, i64_w]
  rfl
 refine pure_ (i := 2) (N := (some 38)) (v := undef) (a' := ?_) #[tt,tt,tt,ff,ff,ff,ff,ff,ff,ff,ff,ff,ff,ff,ff,ff,ff,ff,ff,ff,ff,ff,ff] rfl rfl (any_of HT_.out (by kernel_rfl)) (fun _ _ _ h => h) (Or.inr ⟨by rfl, rfl⟩) ?_ ?_
 rotate_left
 ·simp only [Act.put, sQ0, sQ1, sQ2, i64_w]
  rfl
 refine pure_ (i := 3) (N := (some 39)) (v := undef) (a' := ?_) #[tt,tt,tt,tt,ff,ff,ff,ff,ff,ff,ff,ff,ff,ff,ff,ff,ff,ff,ff,ff,ff,ff,ff] rfl rfl (any_of HT_.out (by kernel_rfl)) (fun _ _ _ h => h) (Or.inr ⟨by rfl, rfl⟩) ?_ ?_
 rotate_left
 ·simp only [Act.put, sQ0, sQ1, sQ2, i64_w]
  rfl
 refine pure_ (i := 4) (N := (some 40)) (v := undef) (a' := ?_) #[tt,tt,tt,tt,tt,ff,ff,ff,ff,ff,ff,ff,ff,ff,ff,ff,ff,ff,ff,ff,ff,ff,ff] rfl rfl (any_of HT_.out (by kernel_rfl)) (fun _ _ _ h => h) (Or.inr ⟨by rfl, rfl⟩) ?_ ?_
 rotate_left
 ·simp only [Act.put, sQ0, sQ1, sQ2, i64_w]
  rfl
 refine pure_ (i := 5) (N := (some 41)) (v := undef) (a' := ?_) #[tt,tt,tt,tt,tt,tt,ff,ff,ff,ff,ff,ff,ff,ff,ff,ff,ff,ff,ff,ff,ff,ff,ff] rfl rfl (any_of HT_.out (by kernel_rfl)) (fun _ _ _ h => h) (Or.inr ⟨by rfl, rfl⟩) ?_ ?_
 rotate_left
 ·simp only [Act.put, sQ0, sQ1, sQ2, i64_w]
  rfl
 refine pure_ (i := 6) (N := (some 42)) (v := undef) (a' := ?_) #[tt,tt,tt,tt,tt,tt,tt,ff,ff,ff,ff,ff,ff,ff,ff,ff,ff,ff,ff,ff,ff,ff,ff] rfl rfl (any_of HT_.out (by kernel_rfl)) (fun _ _ _ h => h) (Or.inr ⟨by rfl, rfl⟩) ?_ ?_
 rotate_left
 ·simp only [Act.put, sQ0, sQ1, sQ2, i64_w]
  rfl
 refine pure_ (i := 7) (N := (some 43)) (v := ?_) (a' := ?_) #[tt,tt,tt,tt,tt,tt,tt,tt,ff,ff,ff,ff,ff,ff,ff,ff,ff,ff,ff,ff,ff,ff,ff] rfl rfl (any_of HT_.out (by kernel_rfl)) (fun _ _ _ h => h) (Or.inl ⟨by rfl, ?_⟩) ?_ ?_
 rotate_left
 ·intro w'
  go_simp
  with_reducible rfl
 rotate_left
 ·simp only [Act.put, sQ0, sQ1, sQ2, i64_w]
  rfl
 refine pure_ (i := 8) (N := (some 44)) (v := ?_) (a' := ?_) #[tt,tt,tt,tt,tt,tt,tt,tt,tt,ff,ff,ff,ff,ff,ff,ff,ff,ff,ff,ff,ff,ff,ff] rfl rfl (any_of HT_.out (by kernel_rfl)) (fun _ _ _ h => h) (Or.inl ⟨by rfl, ?_⟩) ?_ ?_
 rotate_left
 ·intro w'
  go_simp
  with_reducible rfl
 rotate_left
 ·simp only [Act.put, sQ0, sQ1, sQ2, i64_w]
  rfl
 refine pure_ (i := 9) (N := (some 45)) (v := undef) (a' := ?_) #[tt,tt,tt,tt,tt,tt,tt,tt,tt,tt,ff,ff,ff,ff,ff,ff,ff,ff,ff,ff,ff,ff,ff] rfl rfl (any_of HT_.out (by kernel_rfl)) (fun _ _ _ h => h) (Or.inr ⟨by rfl, rfl⟩) ?_ ?_
 rotate_left
 ·simp only [Act.put, sQ0, sQ1, sQ2, i64_w]
  rfl
 refine pure_ (i := 10) (N := (some 46)) (v := undef) (a' := ?_) #[tt,tt,tt,tt,tt,tt,tt,tt,tt,tt,tt,ff,ff,ff,ff,ff,ff,ff,ff,ff,ff,ff,ff] rfl rfl (any_of HT_.out (by kernel_rfl)) (fun _ _ _ h => h) (Or.inr ⟨by rfl, rfl⟩) ?_ ?_
 rotate_left
 ·simp only [Act.put, sQ0, sQ1, sQ2, i64_w]
  rfl
 refine pure_ (i := 11) (N := (some 47)) (v := undef) (a' := ?_) #[tt,tt,tt,tt,tt,tt,tt,tt,tt,tt,tt,tt,ff,ff,ff,ff,ff,ff,ff,ff,ff,ff,ff] rfl rfl (any_of HT_.out (by kernel_rfl)) (fun _ _ _ h => h) (Or.inr ⟨by rfl, rfl⟩) ?_ ?_
 rotate_left
 ·simp only [Act.put, sQ0, sQ1, sQ2, i64_w]
  rfl
 refine pure_ (i := 12) (N := (some 48)) (v := undef) (a' := ?_) #[tt,tt,tt,tt,tt,tt,tt,tt,tt,tt,tt,tt,tt,ff,ff,ff,ff,ff,ff,ff,ff,ff,ff] rfl rfl (any_of HT_.out (by kernel_rfl)) (fun _ _ _ h => h) (Or.inr ⟨by rfl, rfl⟩) ?_ ?_
 rotate_left
 ·simp only [Act.put, sQ0, sQ1, sQ2, i64_w]
  rfl
 refine pure_ (i := 13) (N := (some 49)) (v := undef) (a' := ?_) #[tt,tt,tt,tt,tt,tt,tt,tt,tt,tt,tt,tt,tt,tt,ff,ff,ff,ff,ff,ff,ff,ff,ff] rfl rfl (any_of HT_.out (by kernel_rfl)) (fun _ _ _ h => h) (Or.inr ⟨by rfl, rfl⟩) ?_ ?_
 rotate_left
 ·simp only [Act.put, sQ0, sQ1, sQ2, i64_w]
  rfl
 refine pure_ (i := 14) (N := (some 50)) (v := undef) (a' := ?_) #[tt,tt,tt,tt,tt,tt,tt,tt,tt,tt,tt,tt,tt,tt,tt,ff,ff,ff,ff,ff,ff,ff,ff] rfl rfl (any_of HT_.out (by kernel_rfl)) (fun _ _ _ h => h) (Or.inr ⟨by rfl, rfl⟩) ?_ ?_
 rotate_left
 ·simp only [Act.put, sQ0, sQ1, sQ2, i64_w]
  rfl
 refine pure_ (i := 15) (N := (some 51)) (v := undef) (a' := ?_) #[tt,tt,tt,tt,tt,tt,tt,tt,tt,tt,tt,tt,tt,tt,tt,tt,ff,ff,ff,ff,ff,ff,ff] rfl rfl (any_of HT_.out (by kernel_rfl)) (fun _ _ _ h => h) (Or.inr ⟨by rfl, rfl⟩) ?_ ?_
 rotate_left
 ·simp only [Act.put, sQ0, sQ1, sQ2, i64_w]
  rfl
 refine pure_ (i := 16) (N := (some 52)) (v := ?_) (a' := ?_) #[tt,tt,tt,tt,tt,tt,tt,tt,tt,tt,tt,tt,tt,tt,tt,tt,tt,ff,ff,ff,ff,ff,ff] rfl rfl (any_of HT_.out (by kernel_rfl)) (fun _ _ _ h => h) (Or.inl ⟨by rfl, ?_⟩) ?_ ?_
 rotate_left
 ·intro w'
  go_simp
  with_reducible rfl
 rotate_left
 ·simp only [Act.put, sQ0, sQ1, sQ2, i64_w]
  rfl
 refine pure_ (i := 18) (N := (some 54)) (v := ?_) (a' := ?_) #[tt,tt,tt,tt,tt,tt,tt,tt,tt,tt,tt,tt,tt,tt,tt,tt,tt,ff,tt,ff,ff,ff,ff] rfl rfl (any_of HT_.out (by kernel_rfl)) (fun _ _ _ h => h) (Or.inl ⟨by rfl, ?_⟩) ?_ ?_
 rotate_left
 ·intro w'
  go_simp
  with_reducible rfl
 rotate_left
 ·simp only [Act.put, sQ0, sQ1, sQ2, i64_w]
  rfl
 refine take_ (i := 17) (N := (some 53)) (v := ?_) (a' := ?_) #[tt,tt,tt,tt,tt,tt,tt,tt,tt,tt,tt,tt,tt,tt,tt,tt,tt,tt,tt,ff,ff,ff,ff] rfl rfl (take_ofW HT_.out HW_.out (by kernel_rfl)) (fun _ _ _ h => h) (Or.inl ⟨by rfl, ?_⟩) hHeld ?_ ?_
 rotate_left
 ·rintro w' ⟨s0, s1, s2, s3⟩
  go_simp
  with_reducible rfl
 rotate_left
 ·simp only [Act.put, sQ0, sQ1, sQ2, i64_w]
  rfl
 refine take_ (i := 19) (N := (some 55)) (v := ?_) (a' := ?_) #[tt,tt,tt,tt,tt,tt,tt,tt,tt,tt,tt,tt,tt,tt,tt,tt,tt,tt,tt,tt,ff,ff,ff] rfl rfl (take_ofW HT_.out HW_.out (by kernel_rfl)) (fun _ _ _ h => h) (Or.inl ⟨by rfl, ?_⟩) hHeld ?_ ?_
 rotate_left
 ·rintro w' ⟨s0, s1, s2, s3⟩
  go_simp
  with_reducible rfl
 rotate_left
 ·simp only [Act.put, sQ0, sQ1, sQ2, i64_w]
  rfl
 refine one_ (i := 20) (N := (some 56)) #[tt,tt,tt,tt,tt,tt,tt,tt,tt,tt,tt,tt,tt,tt,tt,tt,tt,tt,tt,tt,tt,ff,ff] rfl rfl (one_of HT_.out (by kernel_rfl)) (by decide) (fun K hK => ?_)
 refine call_ (f := 75) #[pA b, .agg #[.int .i64 e.hn, .int .i64 e.hg], .int .i64 2] (by rfl) rfl (by go_simp <;> rfl) ?_
 refine (end_new b e.hn e.hg 2 w5).mono ?_
 rintro r w6 ⟨sb, xb, hb, rfl, h3, hb2⟩
 refine ⟨_, rfl, ?_⟩
 have HE := Aside0.mk (And.intro h3 (HK6.out.step hb2))
 clear h3 hb2
 refine hK.out _ _ HE.out.2.cells (fun hHeld => ?_)
 clear hK K
 refine norm_ (a' := ?_) ?_ ?_
 rotate_left
 ·show Act.put _ (some 56) _ = _
  simp only [Act.put, sQ0, sQ1, sQ2, i64_w]
  rfl
 refine last_ (i := 21) (N := (some 57)) #[tt,tt,tt,tt,tt,tt,tt,tt,tt,tt,tt,tt,tt,tt,tt,tt,tt,tt,tt,tt,tt,tt,ff] rfl rfl (one_of HT_.out (by kernel_rfl)) (by decide) (fun K hK => ?_)
 refine call_ (f := 73) #[.bool false, .func (.func 99) #[] #[pA sb, pA xb, pA hb]] (by rfl) rfl (by first | (go_simp <;> rfl) | (simp only [HTC.out]; go_simp <;> rfl)) ?_
 refine (un_end false 2 e.hn e.hg (by have := HN.out; omega) HW.out.1 HW.out.2.1 HE.out.2.dj.md HE.out.1).mono ?_
 rintro r w7 ⟨rfl, hm, hf⟩
 refine ⟨_, rfl, ?_⟩
 have HM := Aside0.mk (And.intro hm (HE.out.2.dj.fr.trans hf))
 clear hm hf
 refine hK.out _ _ ?_
 clear hK K
 refine norm_ (a' := ?_) ?_ ?_
 rotate_left
 ·show Act.put _ (some 57) _ = _
  simp only [Act.put, sQ0, sQ1, sQ2, i64_w]
  rfl
 refine pure_ (i := 22) (N := (some 4)) (v := ?_) (a' := ?_) #[tt,tt,tt,tt,tt,tt,tt,tt,tt,tt,tt,tt,tt,tt,tt,tt,tt,tt,tt,tt,tt,tt,tt] rfl rfl (any_of HT_.out (by kernel_rfl)) (fun _ _ _ h => h) (Or.inl ⟨by rfl, ?_⟩) ?_ ?_
 rotate_left
 ·intro w'
  go_simp
  with_reducible rfl
 rotate_left
 ·simp only [Act.put, sQ0, sQ1, sQ2, i64_w]
  rfl
 refine done_ (done_of HT_.out (by kernel_rfl)) ?_
 go_wp2
 go_ret
 exact DoPost.of HF.out rfl HM.out.1 HM.out.2
theorem do_fire_early {w : World} {B b n m1 m2 : Nat} {m : Md} (e : Ev) (hw : (Lit.int .i64 e.hn).wf = true ∧ (Lit.int .i64 e.hg).wf = true ∧ (Lit.int .i64 e.nn).wf = true ∧ (Lit.int .i64 e.ng).wf = true) (hn : n + 1 ≤ 1000000) (hwl : ∀ x, (Lit.int .i64 ((m.lst x).getD 0)).wf = true) (h : MdIs w B b n m m1 m2) (hr : rightJ e = true) (hk : e.k = 4) (ha : m.st e.h = 1) (hd : ¬ m.dl e.h ≤ e.t) :
  Calls Try.prog 43 #[pA b, .agg (evA e)] w (DoPost w B b n m1 m2 (doF m e)) := by
 have hu0 := Try.underlying125
 have hu1 := Try.underlying34
 have hu2 := Try.underlying54
 have hu3 := Try.underlying122
 have hmf : ∀ (fn : Fn) (first cap : Array Value) (w : World), (Instr.makeFunc fn first cap).run Try.prog w = .ok (.func fn first cap) w := fun _ _ _ _ => rfl
 have HF := Aside0.mk (show doF m e = unF false (m.end_ e.h 2) m by unfold doF; rw [if_neg (by rw [hr]; simp), if_neg (by omega), if_pos hk]; rw [if_neg (fun q => hd q.2.1)]; rfl)
 have k1 : (e.k == 1) = false := beq_eq_false_iff_ne.2 (by omega)
 have k4 : (e.k == 4) = true := beq_iff_eq.2 (hk)
 have k3 : (e.k == 3) = false := beq_eq_false_iff_ne.2 (by omega)
 have a1 : ((m.st e.h) == 1) = true := beq_iff_eq.2 (ha)
 have d1 : decide (m.dl e.h ≤ e.t) = false := decide_eq_false hd
 have CR := Aside0.mk (fun W => right_run e W)
 rw [hr] at CR
 have HW := Aside0.mk hw
 have HN := Aside0.mk hn
 have HWL := Aside0.mk hwl
 have HJ := Aside0.mk (Dj.start h e)
 clear hw hn hwl h hr hk ha hd
 have hcx := fun i => blk_cell HJ.out.xb i
 have hce := fun i => blk_cell HJ.out.eb i
 have hlx := blk_lt HJ.out.xb
 have hle := blk_lt HJ.out.eb
 have hcm := fun i => HJ.out.md.cell i
 have hlm := HJ.out.md.lt
 go_enter Try.func43, Try.ntmps43
 go_wp2_with (first | (go_at_call 65; (with_reducible refine (CR.out _).mono ?_); rintro r w2 ⟨rfl, hb2⟩; have HJ2 := Aside0.mk (HJ.out.step hb2); clear hb2 hcx hce hlx hle hcm hlm; have HJ := HJ2; have hcx := fun i => blk_cell HJ.out.xb i; have hce := fun i => blk_cell HJ.out.eb i; have hlx := blk_lt HJ.out.xb; have hle := blk_lt HJ.out.eb; have hcm := fun i => HJ.out.md.cell i; have hlm := HJ.out.md.lt))
 obtain ⟨kl, hkl⟩ := keyH e.hn e.hg HW.out.1 HW.out.2.1
 refine start_ (n := 9) (S := (fun w' => (∀ i, w'.cell? ⟨b, i, none⟩ = (mdA m m1 m2)[i]?) ∧ (∀ i, w'.cell? ⟨w.heap.size, i, none⟩ = (#[pA b] : Array Value)[i]?) ∧ (∀ i, w'.cell? ⟨w.heap.size + 1, i, none⟩ = (evA e)[i]?) ∧ (Instr.lookup 123 (.map (some m1)) (haV e.h) false).run Try.prog w' = .ok (.agg #[.int .i64 (m.st e.h), .int .i64 (m.dl e.h)]) w')) (ds := [8]) #[ff,ff,ff,ff,ff,ff,ff,ff,ff] (by kernel_rfl) rfl rfl ⟨HJ.out.drew.cells.1, HJ.out.drew.cells.2.1, HJ.out.drew.cells.2.2, HJ.out.drew.md.look hkl _ rfl⟩ (fun hHeld => ?_)
 refine with_tabW doR.tab3 doR.bits3 (fun HT_ HW_ => ?_)
 have HJ3 := Aside0.mk HJ.out.drew
 generalize World.drew _ = w3 at HJ3 hHeld ⊢
 clear HJ hcx hce hlx hle hcm hlm
 have hlx := blk_lt HJ3.out.xb
 have hle := blk_lt HJ3.out.eb
 have hlm := HJ3.out.md.lt
 refine pure_ (i := 4) (N := (some 14)) (v := ?_) (a' := ?_) #[ff,ff,ff,ff,tt,ff,ff,ff,ff] rfl rfl (any_of HT_.out (by kernel_rfl)) (fun _ _ _ h => h) (Or.inl ⟨by rfl, ?_⟩) ?_ ?_
 rotate_left
 ·intro w'
  go_simp
  with_reducible rfl
 rotate_left
 ·simp only [Act.put, sQ0, sQ1, sQ2, i64_w]
  rfl
 refine take_ (i := 0) (N := (some 10)) (v := ?_) (a' := ?_) #[tt,ff,ff,ff,tt,ff,ff,ff,ff] rfl rfl (take_ofW HT_.out HW_.out (by kernel_rfl)) (fun _ _ _ h => h) (Or.inl ⟨by rfl, ?_⟩) hHeld ?_ ?_
 rotate_left
 ·rintro w' ⟨s0, s1, s2, s3⟩
  go_simp
  with_reducible rfl
 rotate_left
 ·simp only [Act.put, sQ0, sQ1, sQ2, i64_w]
  rfl
 refine pure_ (i := 1) (N := (some 11)) (v := ?_) (a' := ?_) #[tt,tt,ff,ff,tt,ff,ff,ff,ff] rfl rfl (any_of HT_.out (by kernel_rfl)) (fun _ _ _ h => h) (Or.inl ⟨by rfl, ?_⟩) ?_ ?_
 rotate_left
 ·intro w'
  go_simp
  with_reducible rfl
 rotate_left
 ·simp only [Act.put, sQ0, sQ1, sQ2, i64_w]
  rfl
 refine pure_ (i := 2) (N := (some 12)) (v := ?_) (a' := ?_) #[tt,tt,tt,ff,tt,ff,ff,ff,ff] rfl rfl (any_of HT_.out (by kernel_rfl)) (fun _ _ _ h => h) (Or.inl ⟨by rfl, ?_⟩) ?_ ?_
 rotate_left
 ·intro w'
  go_simp
  with_reducible rfl
 rotate_left
 ·simp only [Act.put, sQ0, sQ1, sQ2, i64_w]
  rfl
 refine take_ (i := 3) (N := (some 13)) (v := ?_) (a' := ?_) #[tt,tt,tt,tt,tt,ff,ff,ff,ff] rfl rfl (take_ofW HT_.out HW_.out (by kernel_rfl)) (fun _ _ _ h => h) (Or.inl ⟨by rfl, ?_⟩) hHeld ?_ ?_
 rotate_left
 ·rintro w' ⟨s0, s1, s2, s3⟩
  go_simp
  with_reducible rfl
 rotate_left
 ·simp only [Act.put, sQ0, sQ1, sQ2, i64_w]
  rfl
 refine take_ (i := 5) (N := (some 15)) (v := ?_) (a' := ?_) #[tt,tt,tt,tt,tt,tt,ff,ff,ff] rfl rfl (take_ofW HT_.out HW_.out (by kernel_rfl)) (fun _ _ _ h => h) (Or.inl ⟨by rfl, ?_⟩) hHeld ?_ ?_
 rotate_left
 ·rintro w' ⟨s0, s1, s2, s3⟩
  go_simp
  with_reducible rfl
 rotate_left
 ·simp only [Act.put, sQ0, sQ1, sQ2, i64_w]
  rfl
 refine take_ (i := 6) (N := (some 16)) (v := ?_) (a' := ?_) #[tt,tt,tt,tt,tt,tt,tt,ff,ff] rfl rfl (take_ofW HT_.out HW_.out (by kernel_rfl)) (fun _ _ _ h => h) (Or.inl ⟨by rfl, ?_⟩) hHeld ?_ ?_
 rotate_left
 ·rintro w' ⟨s0, s1, s2, s3⟩
  go_simp
  with_reducible rfl
 rotate_left
 ·simp only [Act.put, sQ0, sQ1, sQ2, i64_w]
  rfl
 refine one_ (i := 7) (N := (some 5)) #[tt,tt,tt,tt,tt,tt,tt,tt,ff] rfl rfl (one_of HT_.out (by kernel_rfl)) (by decide) (fun K hK => ?_)
 refine value_ (by rfl) rfl (v := .pointer (some ⟨w3.heap.size, 0, none⟩)) (w1 := w3.alloc (.cells #[.int .i64 0, .int .i64 0] 122)) (by go_simp <;> rfl) ?_
 refine hK.out _ _ ⟨(HJ3.out.alloc _).cells.1, (HJ3.out.alloc _).cells.2.1, (HJ3.out.alloc _).cells.2.2, (HJ3.out.alloc _).md.look hkl _ rfl⟩ (fun hHeld => ?_)
 clear hK K
 refine norm_ (a' := ?_) ?_ ?_
 rotate_left
 ·show Act.put _ (some 5) _ = _
  simp only [Act.put, sQ0, sQ1, sQ2, i64_w]
  rfl
 refine last_ (i := 8) (N := none) #[tt,tt,tt,tt,tt,tt,tt,tt,tt] rfl rfl (one_of HT_.out (by kernel_rfl)) (by decide) (fun K hK => ?_)
 refine skip_ (by rfl) rfl (w1 := w3.alloc (.cells #[.int .i64 (m.st e.h), .int .i64 (m.dl e.h)] 122)) (by go_simp <;> rfl) ?_
 refine hK.out _ _ ?_
 clear hK K
 refine done_ (done_of HT_.out (by kernel_rfl)) ?_
 clear hHeld
 have hcx := fun i => blk_cell (HJ3.out.alloc (.cells #[.int .i64 (m.st e.h), .int .i64 (m.dl e.h)] 122)).xb i
 have hce := fun i => blk_cell (HJ3.out.alloc (.cells #[.int .i64 (m.st e.h), .int .i64 (m.dl e.h)] 122)).eb i
 have hcm := fun i => (HJ3.out.alloc (.cells #[.int .i64 (m.st e.h), .int .i64 (m.dl e.h)] 122)).md.cell i
 have HK := Aside0.mk (show Dk w (w3.alloc (.cells #[.int .i64 (m.st e.h), .int .i64 (m.dl e.h)] 122)) B b n m1 m2 m e w3.heap.size from ⟨HJ3.out.alloc _, blk_new _ _⟩)
 clear hkl
 go_upto_region 9 with (fail)
 refine gen_world' (fun W => Dk w W B b n m1 m2 m e w3.heap.size) (by exact HK.out) fun w4 HK4 => ?_
 obtain ⟨fb, hfb⟩ : ∃ fb, w3.heap.size = fb := ⟨_, rfl⟩
 rw [hfb] at HK4 ⊢
 have HK5 := Aside0.mk HK4.drew
 clear HK hfb HK4 hcx hce hlx hle hcm hlm
 refine start_ (n := 23) (S := (fun w' => (∀ i, w'.cell? ⟨b, i, none⟩ = (mdA m m1 m2)[i]?) ∧ (∀ i, w'.cell? ⟨w.heap.size, i, none⟩ = (#[pA b] : Array Value)[i]?) ∧ (∀ i, w'.cell? ⟨w.heap.size + 1, i, none⟩ = (evA e)[i]?) ∧ (∀ i, w'.cell? ⟨fb, i, none⟩ = (#[.int .i64 (m.st e.h), .int .i64 (m.dl e.h)] : Array Value)[i]?))) (ds := [21]) #[ff,ff,ff,ff,ff,ff,ff,ff,ff,ff,ff,ff,ff,ff,ff,ff,ff,ff,ff,ff,ff,ff,ff] (by kernel_rfl) rfl rfl HK5.out.cells (fun hHeld => ?_)
 refine with_tabW doR.tab9 doR.bits9 (fun HT_ HW_ => ?_)
 have HK6 := HK5
 generalize w4.drew = w5 at HK5 HK6 hHeld ⊢
 clear HK5
 have hlm := HK6.out.dj.md.lt
 have hlx := blk_lt HK6.out.dj.xb
 have hle := blk_lt HK6.out.dj.eb
 have hlf := blk_lt HK6.out.fb
 refine pure_ (i := 0) (N := (some 36)) (v := ?_) (a' := ?_) #[tt,ff,ff,ff,ff,ff,ff,ff,ff,ff,ff,ff,ff,ff,ff,ff,ff,ff,ff,ff,ff,ff,ff] rfl rfl (any_of HT_.out (by kernel_rfl)) (fun _ _ _ h => h) (Or.inl ⟨by rfl, ?_⟩) ?_ ?_
 rotate_left
 ·intro w'
  go_simp
  with_reducible rfl
 rotate_left
 ·simp only [Act.put, sQ0, sQ1, sQ2, i64_w]
  rfl
 refine pure_ (i := 1) (N := (some 37)) (v := ?_) (a' := ?_) #[tt,tt,ff,ff,ff,ff,ff,ff,ff,ff,ff,ff,ff,ff,ff,ff,ff,ff,ff,ff,ff,ff,ff] rfl rfl (any_of HT_.out (by kernel_rfl)) (fun _ _ _ h => h) (Or.inl ⟨by rfl, ?_⟩) ?_ ?_
 rotate_left
 ·intro w'
  go_simp
  with_reducible rfl
 rotate_left
 ·simp only [Act.put, sQ0, sQ1, sQ2, i64_w]
  rfl
 refine pure_ (i := 2) (N := (some 38)) (v := ?_) (a' := ?_) #[tt,tt,tt,ff,ff,ff,ff,ff,ff,ff,ff,ff,ff,ff,ff,ff,ff,ff,ff,ff,ff,ff,ff] rfl rfl (any_of HT_.out (by kernel_rfl)) (fun _ _ _ h => h) (Or.inl ⟨by rfl, ?_⟩) ?_ ?_
 rotate_left
 ·intro w'
  go_simp
  with_reducible rfl
 rotate_left
 ·simp only [Act.put, sQ0, sQ1, sQ2, i64_w]
  rfl
 refine pure_ (i := 4) (N := (some 40)) (v := ?_) (a' := ?_) #[tt,tt,tt,ff,tt,ff,ff,ff,ff,ff,ff,ff,ff,ff,ff,ff,ff,ff,ff,ff,ff,ff,ff] rfl rfl (any_of HT_.out (by kernel_rfl)) (fun _ _ _ h => h) (Or.inl ⟨by rfl, ?_⟩) ?_ ?_
 rotate_left
 ·intro w'
  go_simp
  with_reducible rfl
 rotate_left
 ·simp only [Act.put, sQ0, sQ1, sQ2, i64_w]
  rfl
 refine pure_ (i := 18) (N := (some 54)) (v := ?_) (a' := ?_) #[tt,tt,tt,ff,tt,ff,ff,ff,ff,ff,ff,ff,ff,ff,ff,ff,ff,ff,tt,ff,ff,ff,ff] rfl rfl (any_of HT_.out (by kernel_rfl)) (fun _ _ _ h => h) (Or.inl ⟨by rfl, ?_⟩) ?_ ?_
 rotate_left
 ·intro w'
  go_simp
  with_reducible rfl
 rotate_left
 ·simp only [Act.put, sQ0, sQ1, sQ2, i64_w]
  rfl
 refine take_ (i := 3) (N := (some 39)) (v := ?_) (a' := ?_) #[tt,tt,tt,tt,tt,ff,ff,ff,ff,ff,ff,ff,ff,ff,ff,ff,ff,ff,tt,ff,ff,ff,ff] rfl rfl (take_ofW HT_.out HW_.out (by kernel_rfl)) (fun _ _ _ h => h) (Or.inl ⟨by rfl, ?_⟩) hHeld ?_ ?_
 rotate_left
 ·rintro w' ⟨s0, s1, s2, s3⟩
  go_simp
  with_reducible rfl
 rotate_left
 ·simp only [Act.put, sQ0, sQ1, sQ2, i64_w]
  rfl
 refine take_ (i := 5) (N := (some 41)) (v := ?_) (a' := ?_) #[tt,tt,tt,tt,tt,tt,ff,ff,ff,ff,ff,ff,ff,ff,ff,ff,ff,ff,tt,ff,ff,ff,ff] rfl rfl (take_ofW HT_.out HW_.out (by kernel_rfl)) (fun _ _ _ h => h) (Or.inl ⟨by rfl, ?_⟩) hHeld ?_ ?_
 rotate_left
 ·rintro w' ⟨s0, s1, s2, s3⟩
  go_simp
  with_reducible rfl
 rotate_left
 ·simp only [Act.put, sQ0, sQ1, sQ2, i64_w]
  rfl
 refine pure_ (i := 6) (N := (some 42)) (v := ?_) (a' := ?_) #[tt,tt,tt,tt,tt,tt,tt,ff,ff,ff,ff,ff,ff,ff,ff,ff,ff,ff,tt,ff,ff,ff,ff] rfl rfl (any_of HT_.out (by kernel_rfl)) (fun _ _ _ h => h) (Or.inl ⟨by rfl, ?_⟩) ?_ ?_
 rotate_left
 ·intro w'
  go_simp
  with_reducible rfl
 rotate_left
 ·simp only [Act.put, sQ0, sQ1, sQ2, i64_w]
  rfl
 refine pure_ (i := 7) (N := (some 43)) (v := ?_) (a' := ?_) #[tt,tt,tt,tt,tt,tt,tt,tt,ff,ff,ff,ff,ff,ff,ff,ff,ff,ff,tt,ff,ff,ff,ff] rfl rfl (any_of HT_.out (by kernel_rfl)) (fun _ _ _ h => h) (Or.inl ⟨by rfl, ?_⟩) ?_ ?_
 rotate_left
 ·intro w'
  go_simp
  with_reducible rfl
 rotate_left
 ·simp only [Act.put, sQ0, sQ1, sQ2, i64_w]
  rfl
 refine pure_ (i := 8) (N := (some 44)) (v := ?_) (a' := ?_) #[tt,tt,tt,tt,tt,tt,tt,tt,tt,ff,ff,ff,ff,ff,ff,ff,ff,ff,tt,ff,ff,ff,ff] rfl rfl (any_of HT_.out (by kernel_rfl)) (fun _ _ _ h => h) (Or.inl ⟨by rfl, ?_⟩) ?_ ?_
 rotate_left
 ·intro w'
  go_simp
  with_reducible rfl
 rotate_left
 ·simp only [Act.put, sQ0, sQ1, sQ2, i64_w]
  rfl
 refine pure_ (i := 9) (N := (some 45)) (v := undef) (a' := ?_) #[tt,tt,tt,tt,tt,tt,tt,tt,tt,tt,ff,ff,ff,ff,ff,ff,ff,ff,tt,ff,ff,ff,ff] rfl rfl (any_of HT_.out (by kernel_rfl)) (fun _ _ _ h => h) (Or.inr ⟨by rfl, rfl⟩) ?_ ?_
 rotate_left
 ·simp only [Act.put, sQ0, sQ1, sQ2, i64_w]
  rfl
 refine pure_ (i := 10) (N := (some 46)) (v := undef) (a' := ?_) #[tt,tt,tt,tt,tt,tt,tt,tt,tt,tt,tt,ff,ff,ff,ff,ff,ff,ff,tt,ff,ff,ff,ff] rfl rfl (any_of HT_.out (by kernel_rfl)) (fun _ _ _ h => h) (Or.inr ⟨by rfl, rfl⟩) ?_ ?_
 rotate_left
 ·simp only [Act.put, sQ0, sQ1, sQ2, i64_w]
  rfl
 refine pure_ (i := 11) (N := (some 47)) (v := undef) (a' := ?_) #[tt,tt,tt,tt,tt,tt,tt,tt,tt,tt,tt,tt,ff,ff,ff,ff,ff,ff,tt,ff,ff,ff,ff] rfl rfl (any_of HT_.out (by kernel_rfl)) (fun _ _ _ h => h) (Or.inr ⟨by rfl, rfl⟩) ?_ ?_
 rotate_left
 ·simp only [Act.put, sQ0, sQ1, sQ2, i64_w]
  rfl
 refine pure_ (i := 12) (N := (some 48)) (v := undef) (a' := ?_) #[tt,tt,tt,tt,tt,tt,tt,tt,tt,tt,tt,tt,tt,ff,ff,ff,ff,ff,tt,ff,ff,ff,ff] rfl rfl (any_of HT_.out (by kernel_rfl)) (fun _ _ _ h => h) (Or.inr ⟨by rfl, rfl⟩) ?_ ?_
 rotate_left
 ·simp only [Act.put, sQ0, sQ1, sQ2, i64_w]
  rfl
 refine pure_ (i := 13) (N := (some 49)) (v := undef) (a' := ?_) #[tt,tt,tt,tt,tt,tt,tt,tt,tt,tt,tt,tt,tt,tt,ff,ff,ff,ff,tt,ff,ff,ff,ff] rfl rfl (any_of HT_.out (by kernel_rfl)) (fun _ _ _ h => h) (Or.inr ⟨by rfl, rfl⟩) ?_ ?_
 rotate_left
 ·simp only [Act.put, sQ0, sQ1, sQ2, i64_w]
  rfl
 refine pure_ (i := 14) (N := (some 50)) (v := undef) (a' := ?_) #[tt,tt,tt,tt,tt,tt,tt,tt,tt,tt,tt,tt,tt,tt,tt,ff,ff,ff,tt,ff,ff,ff,ff] rfl rfl (any_of HT_.out (by kernel_rfl)) (fun _ _ _ h => h) (Or.inr ⟨by rfl, rfl⟩) ?_ ?_
 rotate_left
 ·simp only [Act.put, sQ0, sQ1, sQ2, i64_w]
  rfl
 refine pure_ (i := 15) (N := (some 51)) (v := undef) (a' := ?_) #[tt,tt,tt,tt,tt,tt,tt,tt,tt,tt,tt,tt,tt,tt,tt,tt,ff,ff,tt,ff,ff,ff,ff] rfl rfl (any_of HT_.out (by kernel_rfl)) (fun _ _ _ h => h) (Or.inr ⟨by rfl, rfl⟩) ?_ ?_
 rotate_left
 ·simp only [Act.put, sQ0, sQ1, sQ2, i64_w]
  rfl
 refine pure_ (i := 16) (N := (some 52)) (v := ?_) (a' := ?_) #[tt,tt,tt,tt,tt,tt,tt,tt,tt,tt,tt,tt,tt,tt,tt,tt,tt,ff,tt,ff,ff,ff,ff] rfl rfl (any_of HT_.out (by kernel_rfl)) (fun _ _ _ h => h) (Or.inl ⟨by rfl, ?_⟩) ?_ ?_
 rotate_left
 ·intro w'
  go_simp
  with_reducible rfl
 rotate_left
 ·simp only [Act.put, sQ0, sQ1, sQ2, i64_w]
  rfl
 refine take_ (i := 17) (N := (some 53)) (v := ?_) (a' := ?_) #[tt,tt,tt,tt,tt,tt,tt,tt,tt,tt,tt,tt,tt,tt,tt,tt,tt,tt,tt,ff,ff,ff,ff] rfl rfl (take_ofW HT_.out HW_.out (by kernel_rfl)) (fun _ _ _ h => h) (Or.inl ⟨by rfl, ?_⟩) hHeld ?_ ?_
 rotate_left
 ·rintro w' ⟨s0, s1, s2, s3⟩
  go_simp
  with_reducible rfl
 rotate_left
 ·simp only [Act.put, sQ0, sQ1, sQ2, i64_w]
  rfl
 refine take_ (i := 19) (N := (some 55)) (v := ?_) (a' := ?_) #[tt,tt,tt,tt,tt,tt,tt,tt,tt,tt,tt,tt,tt,tt,tt,tt,tt,tt,tt,tt,ff,ff,ff] rfl rfl (take_ofW HT_.out HW_.out (by kernel_rfl)) (fun _ _ _ h => h) (Or.inl ⟨by rfl, ?_⟩) hHeld ?_ ?_
 rotate_left
 ·rintro w' ⟨s0, s1, s2, s3⟩
  go_simp
  with_reducible rfl
 rotate_left
 ·simp only [Act.put, sQ0, sQ1, sQ2, i64_w]
  rfl
 refine one_ (i := 20) (N := (some 56)) #[tt,tt,tt,tt,tt,tt,tt,tt,tt,tt,tt,tt,tt,tt,tt,tt,tt,tt,tt,tt,tt,ff,ff] rfl rfl (one_of HT_.out (by kernel_rfl)) (by decide) (fun K hK => ?_)
 refine call_ (f := 75) #[pA b, .agg #[.int .i64 e.hn, .int .i64 e.hg], .int .i64 2] (by rfl) rfl (by go_simp <;> rfl) ?_
 refine (end_new b e.hn e.hg 2 w5).mono ?_
 rintro r w6 ⟨sb, xb, hb, rfl, h3, hb2⟩
 refine ⟨_, rfl, ?_⟩
 have HE := Aside0.mk (And.intro h3 (HK6.out.step hb2))
 clear h3 hb2
 refine hK.out _ _ HE.out.2.cells (fun hHeld => ?_)
 clear hK K
 refine norm_ (a' := ?_) ?_ ?_
 rotate_left
 ·show Act.put _ (some 56) _ = _
  simp only [Act.put, sQ0, sQ1, sQ2, i64_w]
  rfl
 refine last_ (i := 21) (N := (some 57)) #[tt,tt,tt,tt,tt,tt,tt,tt,tt,tt,tt,tt,tt,tt,tt,tt,tt,tt,tt,tt,tt,tt,ff] rfl rfl (one_of HT_.out (by kernel_rfl)) (by decide) (fun K hK => ?_)
 refine call_ (f := 73) #[.bool false, .func (.func 99) #[] #[pA sb, pA xb, pA hb]] (by rfl) rfl (by first | (go_simp <;> rfl) | (simp only [HTC.out]; go_simp <;> rfl)) ?_
 refine (un_end false 2 e.hn e.hg (by have := HN.out; omega) HW.out.1 HW.out.2.1 HE.out.2.dj.md HE.out.1).mono ?_
 rintro r w7 ⟨rfl, hm, hf⟩
 refine ⟨_, rfl, ?_⟩
 have HM := Aside0.mk (And.intro hm (HE.out.2.dj.fr.trans hf))
 clear hm hf
 refine hK.out _ _ ?_
 clear hK K
 refine norm_ (a' := ?_) ?_ ?_
 rotate_left
 ·show Act.put _ (some 57) _ = _
  simp only [Act.put, sQ0, sQ1, sQ2, i64_w]
  rfl
 refine pure_ (i := 22) (N := (some 4)) (v := ?_) (a' := ?_) #[tt,tt,tt,tt,tt,tt,tt,tt,tt,tt,tt,tt,tt,tt,tt,tt,tt,tt,tt,tt,tt,tt,tt] rfl rfl (any_of HT_.out (by kernel_rfl)) (fun _ _ _ h => h) (Or.inl ⟨by rfl, ?_⟩) ?_ ?_
 rotate_left
 ·intro w'
  go_simp
  with_reducible rfl
 rotate_left
 ·simp only [Act.put, sQ0, sQ1, sQ2, i64_w]
  rfl
 refine done_ (done_of HT_.out (by kernel_rfl)) ?_
 go_wp2
 go_ret
 exact DoPost.of HF.out rfl HM.out.1 HM.out.2
theorem do_fire {w : World} {B b n m1 m2 : Nat} {m : Md} (e : Ev) (hw : (Lit.int .i64 e.hn).wf = true ∧ (Lit.int .i64 e.hg).wf = true ∧ (Lit.int .i64 e.nn).wf = true ∧ (Lit.int .i64 e.ng).wf = true) (hn : n + 1 ≤ 1000000) (hwl : ∀ x, (Lit.int .i64 ((m.lst x).getD 0)).wf = true) (h : MdIs w B b n m m1 m2) (hr : rightJ e = true) (hk : e.k = 4) (ha : m.st e.h = 1) (hd : m.dl e.h ≤ e.t) :
  Calls Try.prog 43 #[pA b, .agg (evA e)] w (DoPost w B b n m1 m2 (doF m e)) := by
 have hu0 := Try.underlying125
 have hu1 := Try.underlying34
 have hu2 := Try.underlying54
 have hu3 := Try.underlying122
 have hmf : ∀ (fn : Fn) (first cap : Array Value) (w : World), (Instr.makeFunc fn first cap).run Try.prog w = .ok (.func fn first cap) w := fun _ _ _ _ => rfl
 have HF := Aside0.mk (show doF m e = unF (decide (e.t ≤ m.clk)) (m.end_ e.h 2) m by unfold doF; rw [if_neg (by rw [hr]; simp), if_neg (by omega), if_pos hk]; unfold unF; by_cases ht : e.t ≤ m.clk <;> simp [ha, hd, ht])
 have k1 : (e.k == 1) = false := beq_eq_false_iff_ne.2 (by omega)
 have k4 : (e.k == 4) = true := beq_iff_eq.2 (hk)
 have k3 : (e.k == 3) = false := beq_eq_false_iff_ne.2 (by omega)
 have a1 : ((m.st e.h) == 1) = true := beq_iff_eq.2 (ha)
 have d1 : decide (m.dl e.h ≤ e.t) = true := decide_eq_true hd
 have CR := Aside0.mk (fun W => right_run e W)
 rw [hr] at CR
 have HW := Aside0.mk hw
 have HN := Aside0.mk hn
 have HWL := Aside0.mk hwl
 have HJ := Aside0.mk (Dj.start h e)
 clear hw hn hwl h hr hk ha hd
 have hcx := fun i => blk_cell HJ.out.xb i
 have hce := fun i => blk_cell HJ.out.eb i
 have hlx := blk_lt HJ.out.xb
 have hle := blk_lt HJ.out.eb
 have hcm := fun i => HJ.out.md.cell i
 have hlm := HJ.out.md.lt
 go_enter Try.func43, Try.ntmps43
 go_wp2_with (first | (go_at_call 65; (with_reducible refine (CR.out _).mono ?_); rintro r w2 ⟨rfl, hb2⟩; have HJ2 := Aside0.mk (HJ.out.step hb2); clear hb2 hcx hce hlx hle hcm hlm; have HJ := HJ2; have hcx := fun i => blk_cell HJ.out.xb i; have hce := fun i => blk_cell HJ.out.eb i; have hlx := blk_lt HJ.out.xb; have hle := blk_lt HJ.out.eb; have hcm := fun i => HJ.out.md.cell i; have hlm := HJ.out.md.lt))
 obtain ⟨kl, hkl⟩ := keyH e.hn e.hg HW.out.1 HW.out.2.1
 refine start_ (n := 9) (S := (fun w' => (∀ i, w'.cell? ⟨b, i, none⟩ = (mdA m m1 m2)[i]?) ∧ (∀ i, w'.cell? ⟨w.heap.size, i, none⟩ = (#[pA b] : Array Value)[i]?) ∧ (∀ i, w'.cell? ⟨w.heap.size + 1, i, none⟩ = (evA e)[i]?) ∧ (Instr.lookup 123 (.map (some m1)) (haV e.h) false).run Try.prog w' = .ok (.agg #[.int .i64 (m.st e.h), .int .i64 (m.dl e.h)]) w')) (ds := [8]) #[ff,ff,ff,ff,ff,ff,ff,ff,ff] (by kernel_rfl) rfl rfl ⟨HJ.out.drew.cells.1, HJ.out.drew.cells.2.1, HJ.out.drew.cells.2.2, HJ.out.drew.md.look hkl _ rfl⟩ (fun hHeld => ?_)
 refine with_tabW doR.tab3 doR.bits3 (fun HT_ HW_ => ?_)
 have HJ3 := Aside0.mk HJ.out.drew
 generalize World.drew _ = w3 at HJ3 hHeld ⊢
 clear HJ hcx hce hlx hle hcm hlm
 have hlx := blk_lt HJ3.out.xb
 have hle := blk_lt HJ3.out.eb
 have hlm := HJ3.out.md.lt
 refine pure_ (i := 4) (N := (some 14)) (v := ?_) (a' := ?_) #[ff,ff,ff,ff,tt,ff,ff,ff,ff] rfl rfl (any_of HT_.out (by kernel_rfl)) (fun _ _ _ h => h) (Or.inl ⟨by rfl, ?_⟩) ?_ ?_
 rotate_left
 ·intro w'
  go_simp
  with_reducible rfl
 rotate_left
 ·simp only [Act.put, sQ0, sQ1, sQ2, i64_w]
  rfl
 refine take_ (i := 0) (N := (some 10)) (v := ?_) (a' := ?_) #[tt,ff,ff,ff,tt,ff,ff,ff,ff] rfl rfl (take_ofW HT_.out HW_.out (by kernel_rfl)) (fun _ _ _ h => h) (Or.inl ⟨by rfl, ?_⟩) hHeld ?_ ?_
 rotate_left
 ·rintro w' ⟨s0, s1, s2, s3⟩
  go_simp
  with_reducible rfl
 rotate_left
 ·simp only [Act.put, sQ0, sQ1, sQ2, i64_w]
  rfl
 refine pure_ (i := 1) (N := (some 11)) (v := ?_) (a' := ?_) #[tt,tt,ff,ff,tt,ff,ff,ff,ff] rfl rfl (any_of HT_.out (by kernel_rfl)) (fun _ _ _ h => h) (Or.inl ⟨by rfl, ?_⟩) ?_ ?_
 rotate_left
 ·intro w'
  go_simp
  with_reducible rfl
 rotate_left
 ·simp only [Act.put, sQ0, sQ1, sQ2, i64_w]
  rfl
 refine pure_ (i := 2) (N := (some 12)) (v := ?_) (a' := ?_) #[tt,tt,tt,ff,tt,ff,ff,ff,ff] rfl rfl (any_of HT_.out (by kernel_rfl)) (fun _ _ _ h => h) (Or.inl ⟨by rfl, ?_⟩) ?_ ?_
 rotate_left
 ·intro w'
  go_simp
  with_reducible rfl
 rotate_left
 ·simp only [Act.put, sQ0, sQ1, sQ2, i64_w]
  rfl
 refine take_ (i := 3) (N := (some 13)) (v := ?_) (a' := ?_) #[tt,tt,tt,tt,tt,ff,ff,ff,ff] rfl rfl (take_ofW HT_.out HW_.out (by kernel_rfl)) (fun _ _ _ h => h) (Or.inl ⟨by rfl, ?_⟩) hHeld ?_ ?_
 rotate_left
 ·rintro w' ⟨s0, s1, s2, s3⟩
  go_simp
  with_reducible rfl
 rotate_left
 ·simp only [Act.put, sQ0, sQ1, sQ2, i64_w]
  rfl
 refine take_ (i := 5) (N := (some 15)) (v := ?_) (a' := ?_) #[tt,tt,tt,tt,tt,tt,ff,ff,ff] rfl rfl (take_ofW HT_.out HW_.out (by kernel_rfl)) (fun _ _ _ h => h) (Or.inl ⟨by rfl, ?_⟩) hHeld ?_ ?_
 rotate_left
 ·rintro w' ⟨s0, s1, s2, s3⟩
  go_simp
  with_reducible rfl
 rotate_left
 ·simp only [Act.put, sQ0, sQ1, sQ2, i64_w]
  rfl
 refine take_ (i := 6) (N := (some 16)) (v := ?_) (a' := ?_) #[tt,tt,tt,tt,tt,tt,tt,ff,ff] rfl rfl (take_ofW HT_.out HW_.out (by kernel_rfl)) (fun _ _ _ h => h) (Or.inl ⟨by rfl, ?_⟩) hHeld ?_ ?_
 rotate_left
 ·rintro w' ⟨s0, s1, s2, s3⟩
  go_simp
  with_reducible rfl
 rotate_left
 ·simp only [Act.put, sQ0, sQ1, sQ2, i64_w]
  rfl
 refine one_ (i := 7) (N := (some 5)) #[tt,tt,tt,tt,tt,tt,tt,tt,ff] rfl rfl (one_of HT_.out (by kernel_rfl)) (by decide) (fun K hK => ?_)
 refine value_ (by rfl) rfl (v := .pointer (some ⟨w3.heap.size, 0, none⟩)) (w1 := w3.alloc (.cells #[.int .i64 0, .int .i64 0] 122)) (by go_simp <;> rfl) ?_
 refine hK.out _ _ ⟨(HJ3.out.alloc _).cells.1, (HJ3.out.alloc _).cells.2.1, (HJ3.out.alloc _).cells.2.2, (HJ3.out.alloc _).md.look hkl _ rfl⟩ (fun hHeld => ?_)
 clear hK K
 refine norm_ (a' := ?_) ?_ ?_
 rotate_left
 ·show Act.put _ (some 5) _ = _
  simp only [Act.put, sQ0, sQ1, sQ2, i64_w]
  rfl
 refine last_ (i := 8) (N := none) #[tt,tt,tt,tt,tt,tt,tt,tt,tt] rfl rfl (one_of HT_.out (by kernel_rfl)) (by decide) (fun K hK => ?_)
 refine skip_ (by rfl) rfl (w1 := w3.alloc (.cells #[.int .i64 (m.st e.h), .int .i64 (m.dl e.h)] 122)) (by go_simp <;> rfl) ?_
 refine hK.out _ _ ?_
 clear hK K
 refine done_ (done_of HT_.out (by kernel_rfl)) ?_
 clear hHeld
 have hcx := fun i => blk_cell (HJ3.out.alloc (.cells #[.int .i64 (m.st e.h), .int .i64 (m.dl e.h)] 122)).xb i
 have hce := fun i => blk_cell (HJ3.out.alloc (.cells #[.int .i64 (m.st e.h), .int .i64 (m.dl e.h)] 122)).eb i
 have hcm := fun i => (HJ3.out.alloc (.cells #[.int .i64 (m.st e.h), .int .i64 (m.dl e.h)] 122)).md.cell i
 have HK := Aside0.mk (show Dk w (w3.alloc (.cells #[.int .i64 (m.st e.h), .int .i64 (m.dl e.h)] 122)) B b n m1 m2 m e w3.heap.size from ⟨HJ3.out.alloc _, blk_new _ _⟩)
 clear hkl
 go_upto_region 9 with (fail)
 refine gen_world' (fun W => Dk w W B b n m1 m2 m e w3.heap.size) (by exact HK.out) fun w4 HK4 => ?_
 obtain ⟨fb, hfb⟩ : ∃ fb, w3.heap.size = fb := ⟨_, rfl⟩
 rw [hfb] at HK4 ⊢
 have HK5 := Aside0.mk HK4.drew
 clear HK hfb HK4 hcx hce hlx hle hcm hlm
 refine start_ (n := 23) (S := (fun w' => (∀ i, w'.cell? ⟨b, i, none⟩ = (mdA m m1 m2)[i]?) ∧ (∀ i, w'.cell? ⟨w.heap.size, i, none⟩ = (#[pA b] : Array Value)[i]?) ∧ (∀ i, w'.cell? ⟨w.heap.size + 1, i, none⟩ = (evA e)[i]?) ∧ (∀ i, w'.cell? ⟨fb, i, none⟩ = (#[.int .i64 (m.st e.h), .int .i64 (m.dl e.h)] : Array Value)[i]?))) (ds := [21]) #[ff,ff,ff,ff,ff,ff,ff,ff,ff,ff,ff,ff,ff,ff,ff,ff,ff,ff,ff,ff,ff,ff,ff] (by kernel_rfl) rfl rfl HK5.out.cells (fun hHeld => ?_)
 refine with_tabW doR.tab9 doR.bits9 (fun HT_ HW_ => ?_)
 have HK6 := HK5
 generalize w4.drew = w5 at HK5 HK6 hHeld ⊢
 clear HK5
 have hlm := HK6.out.dj.md.lt
 have hlx := blk_lt HK6.out.dj.xb
 have hle := blk_lt HK6.out.dj.eb
 have hlf := blk_lt HK6.out.fb
 refine pure_ (i := 0) (N := (some 36)) (v := ?_) (a' := ?_) #[tt,ff,ff,ff,ff,ff,ff,ff,ff,ff,ff,ff,ff,ff,ff,ff,ff,ff,ff,ff,ff,ff,ff] rfl rfl (any_of HT_.out (by kernel_rfl)) (fun _ _ _ h => h) (Or.inl ⟨by rfl, ?_⟩) ?_ ?_
 rotate_left
 ·intro w'
  go_simp
  with_reducible rfl
 rotate_left
 ·simp only [Act.put, sQ0, sQ1, sQ2, i64_w]
  rfl
 refine pure_ (i := 1) (N := (some 37)) (v := ?_) (a' := ?_) #[tt,tt,ff,ff,ff,ff,ff,ff,ff,ff,ff,ff,ff,ff,ff,ff,ff,ff,ff,ff,ff,ff,ff] rfl rfl (any_of HT_.out (by kernel_rfl)) (fun _ _ _ h => h) (Or.inl ⟨by rfl, ?_⟩) ?_ ?_
 rotate_left
 ·intro w'
  go_simp
  with_reducible rfl
 rotate_left
 ·simp only [Act.put, sQ0, sQ1, sQ2, i64_w]
  rfl
 refine pure_ (i := 2) (N := (some 38)) (v := ?_) (a' := ?_) #[tt,tt,tt,ff,ff,ff,ff,ff,ff,ff,ff,ff,ff,ff,ff,ff,ff,ff,ff,ff,ff,ff,ff] rfl rfl (any_of HT_.out (by kernel_rfl)) (fun _ _ _ h => h) (Or.inl ⟨by rfl, ?_⟩) ?_ ?_
 rotate_left
 ·intro w'
  go_simp
  with_reducible rfl
 rotate_left
 ·simp only [Act.put, sQ0, sQ1, sQ2, i64_w]
  rfl
 refine pure_ (i := 4) (N := (some 40)) (v := ?_) (a' := ?_) #[tt,tt,tt,ff,tt,ff,ff,ff,ff,ff,ff,ff,ff,ff,ff,ff,ff,ff,ff,ff,ff,ff,ff] rfl rfl (any_of HT_.out (by kernel_rfl)) (fun _ _ _ h => h) (Or.inl ⟨by rfl, ?_⟩) ?_ ?_
 rotate_left
 ·intro w'
  go_simp
  with_reducible rfl
 rotate_left
 ·simp only [Act.put, sQ0, sQ1, sQ2, i64_w]
  rfl
 refine pure_ (i := 18) (N := (some 54)) (v := ?_) (a' := ?_) #[tt,tt,tt,ff,tt,ff,ff,ff,ff,ff,ff,ff,ff,ff,ff,ff,ff,ff,tt,ff,ff,ff,ff] rfl rfl (any_of HT_.out (by kernel_rfl)) (fun _ _ _ h => h) (Or.inl ⟨by rfl, ?_⟩) ?_ ?_
 rotate_left
 ·intro w'
  go_simp
  with_reducible rfl
 rotate_left
 ·simp only [Act.put, sQ0, sQ1, sQ2, i64_w]
  rfl
 refine take_ (i := 3) (N := (some 39)) (v := ?_) (a' := ?_) #[tt,tt,tt,tt,tt,ff,ff,ff,ff,ff,ff,ff,ff,ff,ff,ff,ff,ff,tt,ff,ff,ff,ff] rfl rfl (take_ofW HT_.out HW_.out (by kernel_rfl)) (fun _ _ _ h => h) (Or.inl ⟨by rfl, ?_⟩) hHeld ?_ ?_
 rotate_left
 ·rintro w' ⟨s0, s1, s2, s3⟩
  go_simp
  with_reducible rfl
 rotate_left
 ·simp only [Act.put, sQ0, sQ1, sQ2, i64_w]
  rfl
 refine take_ (i := 5) (N := (some 41)) (v := ?_) (a' := ?_) #[tt,tt,tt,tt,tt,tt,ff,ff,ff,ff,ff,ff,ff,ff,ff,ff,ff,ff,tt,ff,ff,ff,ff] rfl rfl (take_ofW HT_.out HW_.out (by kernel_rfl)) (fun _ _ _ h => h) (Or.inl ⟨by rfl, ?_⟩) hHeld ?_ ?_
 rotate_left
 ·rintro w' ⟨s0, s1, s2, s3⟩
  go_simp
  with_reducible rfl
 rotate_left
 ·simp only [Act.put, sQ0, sQ1, sQ2, i64_w]
  rfl
 refine pure_ (i := 6) (N := (some 42)) (v := ?_) (a' := ?_) #[tt,tt,tt,tt,tt,tt,tt,ff,ff,ff,ff,ff,ff,ff,ff,ff,ff,ff,tt,ff,ff,ff,ff] rfl rfl (any_of HT_.out (by kernel_rfl)) (fun _ _ _ h => h) (Or.inl ⟨by rfl, ?_⟩) ?_ ?_
 rotate_left
 ·intro w'
  go_simp
  with_reducible rfl
 rotate_left
 ·simp only [Act.put, sQ0, sQ1, sQ2, i64_w]
  rfl
 refine pure_ (i := 7) (N := (some 43)) (v := ?_) (a' := ?_) #[tt,tt,tt,tt,tt,tt,tt,tt,ff,ff,ff,ff,ff,ff,ff,ff,ff,ff,tt,ff,ff,ff,ff] rfl rfl (any_of HT_.out (by kernel_rfl)) (fun _ _ _ h => h) (Or.inl ⟨by rfl, ?_⟩) ?_ ?_
 rotate_left
 ·intro w'
  go_simp
  with_reducible rfl
 rotate_left
 ·simp only [Act.put, sQ0, sQ1, sQ2, i64_w]
  rfl
 refine pure_ (i := 8) (N := (some 44)) (v := ?_) (a' := ?_) #[tt,tt,tt,tt,tt,tt,tt,tt,tt,ff,ff,ff,ff,ff,ff,ff,ff,ff,tt,ff,ff,ff,ff] rfl rfl (any_of HT_.out (by kernel_rfl)) (fun _ _ _ h => h) (Or.inl ⟨by rfl, ?_⟩) ?_ ?_
 rotate_left
 ·intro w'
  go_simp
  with_reducible rfl
 rotate_left
 ·simp only [Act.put, sQ0, sQ1, sQ2, i64_w]
  rfl
 refine pure_ (i := 9) (N := (some 45)) (v := ?_) (a' := ?_) #[tt,tt,tt,tt,tt,tt,tt,tt,tt,tt,ff,ff,ff,ff,ff,ff,ff,ff,tt,ff,ff,ff,ff] rfl rfl (any_of HT_.out (by kernel_rfl)) (fun _ _ _ h => h) (Or.inl ⟨by rfl, ?_⟩) ?_ ?_
 rotate_left
 ·intro w'
  go_simp
  with_reducible rfl
 rotate_left
 ·simp only [Act.put, sQ0, sQ1, sQ2, i64_w]
  rfl
 refine take_ (i := 10) (N := (some 46)) (v := ?_) (a' := ?_) #[tt,tt,tt,tt,tt,tt,tt,tt,tt,tt,tt,ff,ff,ff,ff,ff,ff,ff,tt,ff,ff,ff,ff] rfl rfl (take_ofW HT_.out HW_.out (by kernel_rfl)) (fun _ _ _ h => h) (Or.inl ⟨by rfl, ?_⟩) hHeld ?_ ?_
 rotate_left
 ·rintro w' ⟨s0, s1, s2, s3⟩
  go_simp
  with_reducible rfl
 rotate_left
 ·simp only [Act.put, sQ0, sQ1, sQ2, i64_w]
  rfl
 refine take_ (i := 11) (N := (some 47)) (v := ?_) (a' := ?_) #[tt,tt,tt,tt,tt,tt,tt,tt,tt,tt,tt,tt,ff,ff,ff,ff,ff,ff,tt,ff,ff,ff,ff] rfl rfl (take_ofW HT_.out HW_.out (by kernel_rfl)) (fun _ _ _ h => h) (Or.inl ⟨by rfl, ?_⟩) hHeld ?_ ?_
 rotate_left
 ·rintro w' ⟨s0, s1, s2, s3⟩
  go_simp
  with_reducible rfl
 rotate_left
 ·simp only [Act.put, sQ0, sQ1, sQ2, i64_w]
  rfl
 refine pure_ (i := 12) (N := (some 48)) (v := ?_) (a' := ?_) #[tt,tt,tt,tt,tt,tt,tt,tt,tt,tt,tt,tt,tt,ff,ff,ff,ff,ff,tt,ff,ff,ff,ff] rfl rfl (any_of HT_.out (by kernel_rfl)) (fun _ _ _ h => h) (Or.inl ⟨by rfl, ?_⟩) ?_ ?_
 rotate_left
 ·intro w'
  go_simp
  with_reducible rfl
 rotate_left
 ·simp only [Act.put, sQ0, sQ1, sQ2, i64_w]
  rfl
 refine pure_ (i := 13) (N := (some 49)) (v := ?_) (a' := ?_) #[tt,tt,tt,tt,tt,tt,tt,tt,tt,tt,tt,tt,tt,tt,ff,ff,ff,ff,tt,ff,ff,ff,ff] rfl rfl (any_of HT_.out (by kernel_rfl)) (fun _ _ _ h => h) (Or.inl ⟨by rfl, ?_⟩) ?_ ?_
 rotate_left
 ·intro w'
  go_simp
  with_reducible rfl
 rotate_left
 ·simp only [Act.put, sQ0, sQ1, sQ2, i64_w]
  rfl
 refine take_ (i := 14) (N := (some 50)) (v := ?_) (a' := ?_) #[tt,tt,tt,tt,tt,tt,tt,tt,tt,tt,tt,tt,tt,tt,tt,ff,ff,ff,tt,ff,ff,ff,ff] rfl rfl (take_ofW HT_.out HW_.out (by kernel_rfl)) (fun _ _ _ h => h) (Or.inl ⟨by rfl, ?_⟩) hHeld ?_ ?_
 rotate_left
 ·rintro w' ⟨s0, s1, s2, s3⟩
  go_simp
  with_reducible rfl
 rotate_left
 ·simp only [Act.put, sQ0, sQ1, sQ2, i64_w]
  rfl
 refine pure_ (i := 15) (N := (some 51)) (v := ?_) (a' := ?_) #[tt,tt,tt,tt,tt,tt,tt,tt,tt,tt,tt,tt,tt,tt,tt,tt,ff,ff,tt,ff,ff,ff,ff] rfl rfl (any_of HT_.out (by kernel_rfl)) (fun _ _ _ h => h) (Or.inl ⟨by rfl, ?_⟩) ?_ ?_
 rotate_left
 ·intro w'
  go_simp
  with_reducible rfl
 rotate_left
 ·simp only [Act.put, sQ0, sQ1, sQ2, i64_w]
  rfl
 refine pure_ (i := 16) (N := (some 52)) (v := ?_) (a' := ?_) #[tt,tt,tt,tt,tt,tt,tt,tt,tt,tt,tt,tt,tt,tt,tt,tt,tt,ff,tt,ff,ff,ff,ff] rfl rfl (any_of HT_.out (by kernel_rfl)) (fun _ _ _ h => h) (Or.inl ⟨by rfl, ?_⟩) ?_ ?_
 rotate_left
 ·intro w'
  go_simp
  with_reducible rfl
 rotate_left
 ·simp only [Act.put, sQ0, sQ1, sQ2, i64_w]
  rfl
 refine take_ (i := 17) (N := (some 53)) (v := ?_) (a' := ?_) #[tt,tt,tt,tt,tt,tt,tt,tt,tt,tt,tt,tt,tt,tt,tt,tt,tt,tt,tt,ff,ff,ff,ff] rfl rfl (take_ofW HT_.out HW_.out (by kernel_rfl)) (fun _ _ _ h => h) (Or.inl ⟨by rfl, ?_⟩) hHeld ?_ ?_
 rotate_left
 ·rintro w' ⟨s0, s1, s2, s3⟩
  go_simp
  with_reducible rfl
 rotate_left
 ·simp only [Act.put, sQ0, sQ1, sQ2, i64_w]
  rfl
 refine take_ (i := 19) (N := (some 55)) (v := ?_) (a' := ?_) #[tt,tt,tt,tt,tt,tt,tt,tt,tt,tt,tt,tt,tt,tt,tt,tt,tt,tt,tt,tt,ff,ff,ff] rfl rfl (take_ofW HT_.out HW_.out (by kernel_rfl)) (fun _ _ _ h => h) (Or.inl ⟨by rfl, ?_⟩) hHeld ?_ ?_
 rotate_left
 ·rintro w' ⟨s0, s1, s2, s3⟩
  go_simp
  with_reducible rfl
 rotate_left
 ·simp only [Act.put, sQ0, sQ1, sQ2, i64_w]
  rfl
 refine one_ (i := 20) (N := (some 56)) #[tt,tt,tt,tt,tt,tt,tt,tt,tt,tt,tt,tt,tt,tt,tt,tt,tt,tt,tt,tt,tt,ff,ff] rfl rfl (one_of HT_.out (by kernel_rfl)) (by decide) (fun K hK => ?_)
 refine call_ (f := 75) #[pA b, .agg #[.int .i64 e.hn, .int .i64 e.hg], .int .i64 2] (by rfl) rfl (by go_simp <;> rfl) ?_
 refine (end_new b e.hn e.hg 2 w5).mono ?_
 rintro r w6 ⟨sb, xb, hb, rfl, h3, hb2⟩
 refine ⟨_, rfl, ?_⟩
 have HE := Aside0.mk (And.intro h3 (HK6.out.step hb2))
 clear h3 hb2
 refine hK.out _ _ HE.out.2.cells (fun hHeld => ?_)
 clear hK K
 refine norm_ (a' := ?_) ?_ ?_
 rotate_left
 ·show Act.put _ (some 56) _ = _
  simp only [Act.put, sQ0, sQ1, sQ2, i64_w]
  rfl
 refine last_ (i := 21) (N := (some 57)) #[tt,tt,tt,tt,tt,tt,tt,tt,tt,tt,tt,tt,tt,tt,tt,tt,tt,tt,tt,tt,tt,tt,ff] rfl rfl (one_of HT_.out (by kernel_rfl)) (by decide) (fun K hK => ?_)
 refine call_ (f := 73) #[.bool (decide (e.t ≤ m.clk)), .func (.func 99) #[] #[pA sb, pA xb, pA hb]] (by rfl) rfl (by first | (go_simp <;> rfl) | (simp only [HTC.out]; go_simp <;> rfl)) ?_
 refine (un_end (decide (e.t ≤ m.clk)) 2 e.hn e.hg (by have := HN.out; omega) HW.out.1 HW.out.2.1 HE.out.2.dj.md HE.out.1).mono ?_
 rintro r w7 ⟨rfl, hm, hf⟩
 refine ⟨_, rfl, ?_⟩
 have HM := Aside0.mk (And.intro hm (HE.out.2.dj.fr.trans hf))
 clear hm hf
 refine hK.out _ _ ?_
 clear hK K
 refine norm_ (a' := ?_) ?_ ?_
 rotate_left
 ·show Act.put _ (some 57) _ = _
  simp only [Act.put, sQ0, sQ1, sQ2, i64_w]
  rfl
 refine pure_ (i := 22) (N := (some 4)) (v := ?_) (a' := ?_) #[tt,tt,tt,tt,tt,tt,tt,tt,tt,tt,tt,tt,tt,tt,tt,tt,tt,tt,tt,tt,tt,tt,tt] rfl rfl (any_of HT_.out (by kernel_rfl)) (fun _ _ _ h => h) (Or.inl ⟨by rfl, ?_⟩) ?_ ?_
 rotate_left
 ·intro w'
  go_simp
  with_reducible rfl
 rotate_left
 ·simp only [Act.put, sQ0, sQ1, sQ2, i64_w]
  rfl
 refine done_ (done_of HT_.out (by kernel_rfl)) ?_
 go_wp2
 go_ret
 exact DoPost.of HF.out rfl HM.out.1 HM.out.2
theorem do_any {w : World} {B b n m1 m2 : Nat} {m : Md} (e : Ev) (hw : (Lit.int .i64 e.hn).wf = true ∧ (Lit.int .i64 e.hg).wf = true ∧ (Lit.int .i64 e.nn).wf = true ∧ (Lit.int .i64 e.ng).wf = true) (hn : n + 1 ≤ 1000000) (hwl : ∀ x, (Lit.int .i64 ((m.lst x).getD 0)).wf = true) (h : MdIs w B b n m m1 m2) :
  Calls Try.prog 43 #[pA b, .agg (evA e)] w (DoPost w B b n m1 m2 (doF m e)) := by
 cases hr : rightJ e with
 | false => exact do_wrong e hw hn hwl h hr
 | true =>
  have hk : e.k = 1 ∨ e.k = 2 ∨ e.k = 3 ∨ e.k = 4 ∨ e.k = 5 := by
   have h := hr
   unfold rightJ Ev.evRight Ev.kindB at h
   simp at h
   omega
  rcases hk with hk | hk | hk | hk | hk
  ·exact do_tick e hw hn hwl h hr hk
  ·exact do_other e hw hn hwl h hr (.inl hk)
  ·exact do_point e hw hn hwl h hr hk
  ·by_cases ha : m.st e.h = 1
   ·by_cases hd : m.dl e.h ≤ e.t
    ·exact do_fire e hw hn hwl h hr hk ha hd
    ·exact do_fire_early e hw hn hwl h hr hk ha hd
   ·exact do_fire_no e hw hn hwl h hr hk ha
  ·exact do_other e hw hn hwl h hr (.inr hk)
end Go.Proofs.Ythniclbmpeklmaa.Ju
end
section
set_option maxHeartbeats 4000000
set_option maxRecDepth 100000
namespace Go.Proofs.Ythniclbmpeklmaa.Ju
open Go.RowKit Go.Maps Go.Proofs.YthniclbmpeklmaaW.PrintWords Go.Proofs.YthniclbmpeklmaaW.PrintLast Go.Proofs.YthniclbmpeklmaaW.PrintMore Go.Proofs.Ythniclbmpeklmaa.Mp Go.Proofs.Ythniclbmpeklmaa.Au
set_option linter.unusedVariables false
set_option linter.unusedSimpArgs false
attribute [local go_sem high] Ev.eqHa
structure Blw (B : Nat) (w W : World) : Prop where
 b : Below B w W
 f : ∀ (g : Nat) (cs : Array Value) (t : TypeId), w.heap[g]? = some (.cells cs t (0, 0)) → t ≠ 125 → t ≠ 119 → W.heap[g]? = w.heap[g]?
section
variable {w W W1 : World} {B : Nat}
theorem Blw.size (h : Blw B w W) : w.heap.size ≤ W.heap.size := h.b.size
theorem Blw.trans (h : Blw B w W) (h1 : Blw B W W1) : Blw B w W1 := ⟨h.b.trans h1.b, fun g cs t hg h2 h3 => (h1.f g cs t ((h.f g cs t hg h2 h3).trans hg) h2 h3).trans (h.f g cs t hg h2 h3)⟩
theorem Blw.of (hB : B ≤ w.heap.size) (hb : Below w.heap.size w W) : Blw B w W := ⟨below_then (Below.refl B w) hB hb, fun g cs t hg _ _ => hb.block g (blk_lt hg)⟩
theorem Blw.then (h : Blw B w W) (hB : B ≤ w.heap.size) (hb : Below W.heap.size W W1) : Blw B w W1 := h.trans (Blw.of (by have := h.size; omega) hb)
theorem Blw.drew (h : Blw B w W) : Blw B w W.drew := ⟨below_drew h.b, h.f⟩
theorem Blw.drewN (h : Blw B w W) (q : Nat) : Blw B w (W.drewN q) := ⟨pw_below_drewN h.b q, h.f⟩
theorem Blw.map {g : Nat} (hg : w.grownBy W (some g)) (hB : B ≤ w.heap.size) (h3 : B ≤ g) (hm : ∃ es cl, w.heap[g]? = some (.map es cl)) : Blw B w W := by
 obtain ⟨_, _, hm⟩ := hm
 exact ⟨(Fr.of_grown hg).below hB (fun g q => by rw [Option.some.inj q]; exact h3), fun q cs t hq _ _ => hg.block q (blk_lt hq) (fun e => map_ne hq hm (Option.some.inj e))⟩
theorem Blw.set (h : Blw B w W) {g : Nat} {cs : Array Value} (hg : W.heap[g]? = some (.cells cs 119 (0, 0))) (hB : B ≤ g) (i : Nat) (v : Value) : Blw B w (W.setCell ⟨g, i, none⟩ v) :=
 ⟨h.b.setCell hB v, fun q cs t hq h2 h3 => (Below.heap_setCell _ _ _ _ (types_ne ((h.f q cs t hq h2 h3).trans hq) hg h3)).trans (h.f q cs t hq h2 h3)⟩
end
structure Bj (w W : World) (B b n mb m1 m2 m3 : Nat) (s : Be) (pf : Int → Option Nat) (e : Ev) (eb : Nat) : Prop where
 be : BeIs W B b n s mb m1 m2 m3 pf
 eb_ : W.heap[eb]? = some (.cells (evA e) 54 (0, 0))
 bel : Blw B w W
 hB : B ≤ w.heap.size
 he : B ≤ eb
section
variable {w W W1 : World} {B b n mb m1 m2 m3 eb : Nat} {s : Be} {pf : Int → Option Nat} {e : Ev}
theorem Bj.start (h : BeIs w B b n s mb m1 m2 m3 pf) (hB : B ≤ w.heap.size) (e : Ev) : Bj w (w.alloc (.cells (evA e) 54)) B b n mb m1 m2 m3 s pf e w.heap.size :=
 ⟨h.alloc _, blk_new _ _, Blw.of hB (below_alloc (Below.refl _ _) _), hB, hB⟩
theorem Bj.step (h : Bj w W B b n mb m1 m2 m3 s pf e eb) (hb : Below W.heap.size W W1) : Bj w W1 B b n mb m1 m2 m3 s pf e eb := ⟨h.be.below hb, blk_below h.eb_ hb, h.bel.then h.hB hb, h.hB, h.he⟩
theorem Bj.alloc (h : Bj w W B b n mb m1 m2 m3 s pf e eb) (o : Obj) : Bj w (W.alloc o) B b n mb m1 m2 m3 s pf e eb := h.step (below_alloc (Below.refl _ _) o)
theorem Bj.drew (h : Bj w W B b n mb m1 m2 m3 s pf e eb) : Bj w W.drew B b n mb m1 m2 m3 s pf e eb := ⟨h.be.drew, h.eb_, h.bel.drew, h.hB, h.he⟩
theorem Bj.drewN (h : Bj w W B b n mb m1 m2 m3 s pf e eb) (q : Nat) : Bj w (W.drewN q) B b n mb m1 m2 m3 s pf e eb := ⟨h.be.drewN q, h.eb_, h.bel.drewN q, h.hB, h.he⟩
theorem Bj.cells (h : Bj w W B b n mb m1 m2 m3 s pf e eb) : (∀ i, W.cell? ⟨b, i, none⟩ = (beA s.nw mb m3)[i]?) ∧ (∀ i, W.cell? ⟨eb, i, none⟩ = (evA e)[i]?) := ⟨fun i => h.be.cell i, fun i => blk_cell h.eb_ i⟩
theorem Bj.model {n' : Nat} {m' : Md} (h : Bj w W B b n mb m1 m2 m3 s pf e eb) (hm : MdIs W1 B mb n' m' m1 m2) (hn : n ≤ n') (hf : Fr W W1 (mdS mb m1 m2)) : Bj w W1 B b n' mb m1 m2 m3 { s with m := m' } pf e eb := by
 refine ⟨h.be.model hm hn hf, hf.blk h.eb_ ?_, h.bel.trans ⟨hf.below ?_ ?_, fun g cs t hg q1 q2 => hf.block g (blk_lt hg) ?_⟩, h.hB, h.he⟩
 ·rintro (q | q | q)
  ·exact types_ne h.eb_ h.be.md.blk (by decide) q
  ·obtain ⟨z, _, hz⟩ := h.be.md.mf; obtain ⟨_, _, hq⟩ := hz.block; exact map_ne h.eb_ hq q
  ·obtain ⟨z, _, hz⟩ := h.be.md.ml; obtain ⟨_, _, hq⟩ := hz.block; exact map_ne h.eb_ hq q
 ·have := h.bel.size; have := h.hB; omega
 ·rintro g (q | q | q)
  ·rw [q]; exact h.be.md.hb
  ·rw [q]; exact h.be.md.h1
  ·rw [q]; exact h.be.md.h2
 ·rintro (q | q | q)
  ·exact types_ne hg h.be.md.blk q1 q
  ·obtain ⟨z, _, hz⟩ := h.be.md.mf; obtain ⟨_, _, hq⟩ := hz.block; exact map_ne hg hq q
  ·obtain ⟨z, _, hz⟩ := h.be.md.ml; obtain ⟨_, _, hq⟩ := hz.block; exact map_ne hg hq q
end
structure Wj (w W : World) (B b n mb m1 m2 m3 : Nat) (s : Be) (pf : Int → Option Nat) (e : Ev) (eb g : Nat) (iv : Ev) (beg : Int) (pp : Option Addr) : Prop where
 bj : Bj w W B b n mb m1 m2 m3 s pf e eb
 gb : W.heap[g]? = some (.cells (wkA iv beg pp) 119 (0, 0))
section
variable {w W W1 : World} {B b n mb m1 m2 m3 eb g : Nat} {s : Be} {pf : Int → Option Nat} {e iv : Ev} {beg : Int} {pp : Option Addr}
theorem Wj.drew (h : Wj w W B b n mb m1 m2 m3 s pf e eb g iv beg pp) : Wj w W.drew B b n mb m1 m2 m3 s pf e eb g iv beg pp := ⟨h.bj.drew, h.gb⟩
theorem Wj.drewN (h : Wj w W B b n mb m1 m2 m3 s pf e eb g iv beg pp) (q : Nat) : Wj w (W.drewN q) B b n mb m1 m2 m3 s pf e eb g iv beg pp := ⟨h.bj.drewN q, h.gb⟩
theorem Wj.cells (h : Wj w W B b n mb m1 m2 m3 s pf e eb g iv beg pp) : (∀ i, W.cell? ⟨b, i, none⟩ = (beA s.nw mb m3)[i]?) ∧ (∀ i, W.cell? ⟨eb, i, none⟩ = (evA e)[i]?) ∧ (∀ i, W.cell? ⟨g, i, none⟩ = (wkA iv beg pp)[i]?) := ⟨h.bj.cells.1, h.bj.cells.2, fun i => blk_cell h.gb i⟩
theorem Wj.model {n' : Nat} {m' : Md} (h : Wj w W B b n mb m1 m2 m3 s pf e eb g iv beg pp) (hm : MdIs W1 B mb n' m' m1 m2) (hn : n ≤ n') (hf : Fr W W1 (mdS mb m1 m2)) : Wj w W1 B b n' mb m1 m2 m3 { s with m := m' } pf e eb g iv beg pp := by
 refine ⟨h.bj.model hm hn hf, hf.blk h.gb ?_⟩
 rintro (q | q | q)
 ·exact types_ne h.gb h.bj.be.md.blk (by decide) q
 ·obtain ⟨z, _, hz⟩ := h.bj.be.md.mf; obtain ⟨_, _, hq⟩ := hz.block; exact map_ne h.gb hq q
 ·obtain ⟨z, _, hz⟩ := h.bj.be.md.ml; obtain ⟨_, _, hq⟩ := hz.block; exact map_ne h.gb hq q
end
def BePost (w : World) (B b n mb m1 m2 m3 : Nat) (p : Be × Int) (r : Ending) (w' : World) : Prop := r = .returned (.int .i64 p.2) ∧ (∃ pf, BeIs w' B b (n + 4) p.1 mb m1 m2 m3 pf) ∧ Blw B w w'
theorem BePost.of {w W : World} {B b n mb m1 m2 m3 : Nat} {p q : Be × Int} (h : p = q) {v : Int} (hv : v = q.2) {pf : Int → Option Nat} (hm : BeIs W B b (n + 4) q.1 mb m1 m2 m3 pf) (hf : Blw B w W) : BePost w B b n mb m1 m2 m3 p (.returned (.int .i64 v)) W := by
 subst h
 subst hv
 exact ⟨rfl, ⟨pf, hm⟩, hf⟩
theorem judge_new_no (n : Int) (h : n < 1 ∨ 64 < n) (w : World) : Calls Try.prog 26 #[.int .i64 n] w fun r w' => r = .returned (.tuple #[.pointer none, .int .i64 1]) ∧ w' = w := by
 by_cases h1 : n < 1
 ·have g1 : decide (n < 1) = true := decide_eq_true h1
  clear h h1
  go_enter Try.func26, Try.ntmps26
  go_wp2
  go_ret2
  exact ⟨rfl, rfl⟩
 ·have g1 : decide (n < 1) = false := decide_eq_false h1
  have g2 : decide (n > 64) = true := decide_eq_true (by omega)
  clear h h1
  go_enter Try.func26, Try.ntmps26
  go_wp2
  go_ret2
  exact ⟨rfl, rfl⟩
theorem judge_new (n : Int) (h : ¬ (n < 1 ∨ 64 < n)) (w : World) : Calls Try.prog 26 #[.int .i64 n] w fun r w' => ∃ b mb m1 m2 m3, r = .returned (.tuple #[pA b, .int .i64 0]) ∧ BeIs w' w.heap.size b 0 (be0 n) mb m1 m2 m3 (fun _ => none) ∧ Below w.heap.size w w' := by
 have hmm := @run_makeMap Try.prog
 have hu0 := Try.underlying61
 have g1 : decide (n < 1) = false := decide_eq_false (by omega)
 have g2 : decide (n > 64) = false := decide_eq_false (by omega)
 have CM := Aside0.mk (model_new w)
 clear h
 go_enter Try.func26, Try.ntmps26
 go_wp2_with (go_at_call 40; (with_reducible refine CM.out.mono ?_); rintro r w2 ⟨rfl, hm, hb⟩; have HM := Aside0.mk (And.intro hm hb); have hz := (And.intro hm hb).2.size; clear hm hb)
 go_ret2
 have hm := HM.out.1
 have hb := HM.out.2
 have hl1 := hm.lt1
 have hl2 := hm.lt2
 have q3 := (MapIs.made (c := Value.int .i64) w2 Try.prog 3).move (w' := (w2.alloc (.map #[] 0)).alloc (.cells (beA n (w.heap.size + 1 + 1) w2.heap.size) 61)) (by rw [Below.heap_alloc _ _ _ (by simp)])
 have qb := blk_new (w2.alloc (.map #[] 0)) (.cells (beA n (w.heap.size + 1 + 1) w2.heap.size) 61)
 rw [show (w2.alloc (.map #[] 0)).heap.size = w2.heap.size + 1 by simp] at qb
 have hpn : pV (fun _ => none) = (fun _ => none : Int → Option Value) := rfl
 exact ⟨_, _, _, _, _, rfl, ⟨qb, (hm.alloc _).alloc _, ⟨[], List.nodup_nil, Nat.le_refl _, fun x => by simp, by rw [hpn]; exact q3⟩, fun x => .inl ⟨rfl, rfl⟩, fun x y g hx => (by cases hx), by omega, by omega, by omega, by omega⟩, below_alloc (below_alloc hb _) _⟩
theorem within_no (d t f g : Int) (h : decide (t ≤ wrap64 (d - f)) = false) (w : World) : Calls Try.prog 95 #[.int .i64 d, .int .i64 t, .int .i64 f, .int .i64 g] w fun r w' => r = .returned (.bool (withinB d t f g)) ∧ w' = w := by
 have HW := Aside0.mk (show withinB d t f g = (false && decide (wrap64 (d - g) ≤ t)) by unfold withinB; rw [h])
 go_enter Try.func95, Try.ntmps95
 go_wp2
 go_ret
 exact ⟨by rw [HW.out]; rfl, rfl⟩
theorem within_yes (d t f g : Int) (h : decide (t ≤ wrap64 (d - f)) = true) (w : World) : Calls Try.prog 95 #[.int .i64 d, .int .i64 t, .int .i64 f, .int .i64 g] w fun r w' => r = .returned (.bool (withinB d t f g)) ∧ w' = w := by
 have HW := Aside0.mk (show withinB d t f g = (true && decide (wrap64 (d - g) ≤ t)) by unfold withinB; rw [h])
 go_enter Try.func95, Try.ntmps95
 go_wp2
 go_ret
 exact ⟨by rw [HW.out]; rfl, rfl⟩
theorem within_any (d t f g : Int) (w : World) : Calls Try.prog 95 #[.int .i64 d, .int .i64 t, .int .i64 f, .int .i64 g] w fun r w' => r = .returned (.bool (withinB d t f g)) ∧ w' = w := by
 cases h : decide (t ≤ wrap64 (d - f)) with
 | false => exact within_no d t f g h w
 | true => exact within_yes d t f g h w
theorem answers_none {w : World} {g : Nat} (iv : Ev) (beg : Int) (e : Ev) (hg : w.heap[g]? = some (.cells (wkA iv beg none) 119 (0, 0)))  :
  Calls Try.prog 67 #[pA g, .agg (evA e)] w fun r w' => r = .returned (.bool false) ∧ Below w.heap.size w w' := by
 have hu0 := Try.underlying119
 have hu1 := Try.underlying34
 have hu2 := Try.underlying54
 have hcg := fun i => blk_cell hg i
 have hlg := blk_lt hg
 clear hg
 go_enter Try.func67, Try.ntmps67
 go_wp2
 go_quiet (fail)
 go_wp2
 go_ret
 exact ⟨rfl, by repeat (first | exact Below.refl _ _ | apply below_alloc | apply pw_below_drewN)⟩
theorem answers_handle {w : World} {g q : Nat} (iv ev : Ev) (beg : Int) (e : Ev) (hg : w.heap[g]? = some (.cells (wkA iv beg (some ⟨q, 0, none⟩)) 119 (0, 0))) (hq : w.heap[q]? = some (.cells (evA ev) 54 (0, 0))) (h1 : (ev.nn == e.nn && (ev.ng == e.ng)) = false) :
  Calls Try.prog 67 #[pA g, .agg (evA e)] w fun r w' => r = .returned (.bool false) ∧ Below w.heap.size w w' := by
 have hu0 := Try.underlying119
 have hu1 := Try.underlying34
 have hu2 := Try.underlying54
 have hcg := fun i => blk_cell hg i
 have hlg := blk_lt hg
 have hcq := fun i => blk_cell hq i
 have hlq := blk_lt hq
 clear hg hq
 go_enter Try.func67, Try.ntmps67
 go_wp2
 go_quiet (fail)
 go_wp2
 go_ret
 exact ⟨rfl, by repeat (first | exact Below.refl _ _ | apply below_alloc | apply pw_below_drewN)⟩
theorem answers_yes {w : World} {g q : Nat} (iv ev : Ev) (beg : Int) (e : Ev) (hg : w.heap[g]? = some (.cells (wkA iv beg (some ⟨q, 0, none⟩)) 119 (0, 0))) (hq : w.heap[q]? = some (.cells (evA ev) 54 (0, 0))) (h1 : (ev.nn == e.nn && (ev.ng == e.ng)) = true) (h2 : (ev.y == e.y) = false) :
  Calls Try.prog 67 #[pA g, .agg (evA e)] w fun r w' => r = .returned (.bool false) ∧ Below w.heap.size w w' := by
 have hu0 := Try.underlying119
 have hu1 := Try.underlying34
 have hu2 := Try.underlying54
 have hcg := fun i => blk_cell hg i
 have hlg := blk_lt hg
 have hcq := fun i => blk_cell hq i
 have hlq := blk_lt hq
 clear hg hq
 go_enter Try.func67, Try.ntmps67
 go_wp2
 go_quiet (fail)
 go_wp2
 go_ret
 exact ⟨rfl, by repeat (first | exact Below.refl _ _ | apply below_alloc | apply pw_below_drewN)⟩
theorem answers_err {w : World} {g q : Nat} (iv ev : Ev) (beg : Int) (e : Ev) (hg : w.heap[g]? = some (.cells (wkA iv beg (some ⟨q, 0, none⟩)) 119 (0, 0))) (hq : w.heap[q]? = some (.cells (evA ev) 54 (0, 0))) (h1 : (ev.nn == e.nn && (ev.ng == e.ng)) = true) (h2 : (ev.y == e.y) = true) :
  Calls Try.prog 67 #[pA g, .agg (evA e)] w fun r w' => r = .returned (.bool (ev.er == e.er)) ∧ Below w.heap.size w w' := by
 have hu0 := Try.underlying119
 have hu1 := Try.underlying34
 have hu2 := Try.underlying54
 have hcg := fun i => blk_cell hg i
 have hlg := blk_lt hg
 have hcq := fun i => blk_cell hq i
 have hlq := blk_lt hq
 clear hg hq
 go_enter Try.func67, Try.ntmps67
 go_wp2
 go_quiet (fail)
 go_wp2
 go_ret
 exact ⟨rfl, by repeat (first | exact Below.refl _ _ | apply below_alloc | apply pw_below_drewN)⟩
theorem answers_any {w : World} {B g : Nat} {k : Wk} (h : WkIs w B g k) (e : Ev) : Calls Try.prog 67 #[pA g, .agg (evA e)] w fun r w' => r = .returned (.bool (answersB k e)) ∧ Below w.heap.size w w' := by
 obtain ⟨_, iv, pp, hg, _, _, _, _, ⟨rfl, hp⟩ | ⟨q, ev, rfl, _, hq, hp⟩⟩ := h
 ·have hr : answersB k e = false := by unfold answersB; rw [hp]
  rw [hr]
  exact answers_none iv k.beg e hg
 ·have hr : answersB k e = ((ev.nn == e.nn && (ev.ng == e.ng)) && ((ev.y == e.y) && (ev.er == e.er))) := by unfold answersB; rw [hp]; unfold ptOf; simp [Bool.and_assoc]
  rw [hr]
  cases h1 : (ev.nn == e.nn && (ev.ng == e.ng)) with
  | false => exact answers_handle iv ev k.beg e hg hq h1
  | true =>
   cases h2 : (ev.y == e.y) with
   | false => exact answers_yes iv ev k.beg e hg hq h1 h2
   | true => exact answers_err iv ev k.beg e hg hq h1 h2
end Go.Proofs.Ythniclbmpeklmaa.Ju
end
