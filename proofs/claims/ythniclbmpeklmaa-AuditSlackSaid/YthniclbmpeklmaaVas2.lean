/- What is proved: a part of the way to the statement AuditSlackSaid: Mp, Mq, Me, AuP, AuQ, AuS, AuT, AuA, EvA, EvB, EvC, EvD, EvE, EvG, EvF, EvH, EvI, EvJ, AuR, AuC, AuF, AuD; no conditions. Put together by a program of this session (claimv.py). -/
import Derived.Maps.OwnSet
import Derived.DeepKeys4
import Derived.Maps.OwnOps
import Derived.WideKeyEntry
import Derived.Test.YthniclbmpeklmaaProg
import Derived.WalkKit
import Derived.KernelRfl
import Derived.Maps.AppendAt
import Derived.StillTailTactics
import Derived.Deep.QuietTactic
import Derived.BigQuiet
import Derived.Deep.AppendLies
import Derived.Deep.LoopGhost
import Derived.Laws.CopyOwn
import Derived.Laws.Rows
import Derived.Handy
import Derived.Laws.Bits
import Derived.Deep.RegionWith
import Derived.Deep.RegionHeld3
import Derived.Test.YthniclbmpeklmaaVas1
section
namespace Go.Proofs.Ythniclbmpeklmaa
abbrev tt : Bool := true
abbrev ff : Bool := false
theorem sQ0 {α : Type} {l : List α} {i : Nat} {a : α} : l.toArray.setIfInBounds i a = (l.set i a).toArray := by rw [List.setIfInBounds_toArray]
theorem sQ1 {α : Type} {a b : α} {l : List α} : (a :: l).set 0 b = b :: l := rfl
theorem sQ2 {α : Type} {a b : α} {l : List α} {n : Nat} : (a :: l).set (n + 1) b = a :: l.set n b := rfl
end Go.Proofs.Ythniclbmpeklmaa
namespace Go.Proofs.Ythniclbmpeklmaa.Mp
open Go.RowKit Go.Maps
set_option linter.unusedSectionVars false
def tokR (v : Value) : Option (DataW Value × List MemPlace) := some (.held v, [])
def MapIs {κ : Type} (c : κ → Value) (P : Program) (k : TypeId) (w : World) (b s : Nat) (f : κ → Option Value) : Prop :=
 ∃ D : DataW Value, w.ownsMap P k tokR b s D ∧ Maps.size D = s ∧ ∀ x l, keyOf P k (c x) = some l → (f x = none ∧ has D l = false) ∨ ∃ v, f x = some v ∧ has D l = true ∧ ∀ z, D.atKey l z = .held v
section
variable {κ : Type} [DecidableEq κ] {c : κ → Value} {P : Program} {k t e : TypeId} {w : World} {b s : Nat} {f : κ → Option Value}
theorem owns_exact {H : Type} {R : Value → Option (DataW H × List MemPlace)} {n : Nat} {D : DataW H} (h : w.ownsMap P k R b n D) : w.ownsMap P k R b (Maps.size D) D := by
 obtain ⟨es, clock, hb, F, _, rfl⟩ := h
 exact ⟨es, clock, hb, F, by simp [Maps.size, length_sorted], rfl⟩
omit [DecidableEq κ] in
theorem MapIs.made (w : World) (P : Program) (k : TypeId) : MapIs c P k (w.alloc (.map #[] 0)) w.heap.size 0 (fun _ => none) :=
 ⟨.map [], World.ownsMap_made w P k tokR, rfl, fun _ _ _ => .inl ⟨rfl, rfl⟩⟩
theorem MapIs.lt (h : MapIs c P k w b s f) : b < w.heap.size := by obtain ⟨D, h, _⟩ := h; exact h.lt
theorem MapIs.move {w' : World} (h : MapIs c P k w b s f) (hb : w'.heap[b]? = w.heap[b]?) : MapIs c P k w' b s f := by
 obtain ⟨D, ⟨es, clock, h1, h2⟩, h3⟩ := h
 exact ⟨D, ⟨es, clock, hb.trans h1, h2⟩, h3⟩
theorem MapIs.look_ok (h : MapIs c P k w b s f) (K : Keyed P k) (ht : P.underlying t = some (.map k e)) {z : Value} (hz : (zeroValue e).run P w = .ok z w) {x : κ} {kl : Lit} (hkey : keyOf P k (c x) = some kl) :
  (Instr.lookup t (.map (some b)) (c x) true).run P w = .ok (.tuple #[(f x).getD z, .bool (f x).isSome]) w := by
 obtain ⟨D, ho, _, hf⟩ := h
 obtain ⟨v, ps, hrun, hv⟩ := ho.look_ok K ht hz (zd := .held z) (zp := []) rfl hkey
 rw [hrun]
 have hv' := congrArg Prod.fst (Option.some.inj hv)
 rcases hf x kl hkey with ⟨h1, h2⟩ | ⟨y, h1, h2, h3⟩
 ·rw [h1, h2]
  rw [atKey_of_not_has h2] at hv'
  injection hv' with hv'
  rw [hv']; rfl
 ·rw [h1, h2]
  rw [h3] at hv'
  injection hv' with hv'
  rw [hv']; rfl
theorem MapIs.look (h : MapIs c P k w b s f) (K : Keyed P k) (ht : P.underlying t = some (.map k e)) {z : Value} (hz : (zeroValue e).run P w = .ok z w) {x : κ} {kl : Lit} (hkey : keyOf P k (c x) = some kl) :
  (Instr.lookup t (.map (some b)) (c x) false).run P w = .ok ((f x).getD z) w := by
 obtain ⟨D, ho, _, hf⟩ := h
 obtain ⟨v, ps, hrun, hv⟩ := ho.lookup K ht hz (zd := .held z) (zp := []) rfl hkey
 rw [hrun]
 have hv' := congrArg Prod.fst (Option.some.inj hv)
 rcases hf x kl hkey with ⟨h1, h2⟩ | ⟨y, h1, h2, h3⟩
 ·rw [h1]
  rw [atKey_of_not_has h2] at hv'
  injection hv' with hv'
  rw [hv']; rfl
 ·rw [h1]
  rw [h3] at hv'
  injection hv' with hv'
  rw [hv']; rfl
theorem MapIs.len (h : MapIs c P k w b s f) (ht : P.underlying t = some (.map k e)) (ty : TypeId) : (Builtin.len_ #[t] ty #[.map (some b)]).run P w = .ok (.int .i64 s) w := by
 obtain ⟨D, ho, hs, _⟩ := h
 rw [ho.len ht ty, hs]
theorem MapIs.store (hc : ∀ x y, c x = c y → x = y) (h : MapIs c P k w b s f) (K : Keyed P k) (ht : P.underlying t = some (.map k e)) (hn : s < maxLen) {x : κ} {kl : Lit} (hkey : keyOf P k (c x) = some kl) (val : Value) :
  ∃ w', (Instr.mapUpdate t (.map (some b)) (c x) val).run P w = .ok () w' ∧ MapIs c P k w' b (if (f x).isSome then s else s + 1) (fun l => if l = x then some val else f l) ∧ w.mapTurned w' b := by
 obtain ⟨D, ho, hs, hf⟩ := h
 have hT := ho.tidy K
 obtain ⟨w', hrun, ho', hm⟩ := ho.store K ht hn hkey (show tokR val = some (.held val, []) from rfl)
 have hkl := K.key hkey
 have hsz : Maps.size (D.put kl (.held val)) = (if (f x).isSome then s else s + 1) := by
  rw [size_put hT, hs]
  rcases hf x kl hkey with ⟨h1, h2⟩ | ⟨y, h1, h2, h3⟩
  ·rw [h1, h2]; rfl
  ·rw [h1, h2]; rfl
 refine ⟨w', hrun, ⟨D.put kl (.held val), hsz ▸ owns_exact ho', hsz, fun l m hm' => ?_⟩, hm⟩
 by_cases hl : l = x
 ·subst hl
  obtain rfl : kl = m := Option.some.inj (hkey.symm.trans hm')
  exact .inr ⟨val, if_pos rfl, has_put_same hT.isMap hkl _, fun z => atKey_put_same hT.isMap hkl _ _⟩
 ·have hne : m ≠ kl := fun e => hl (hc _ _ (K.inj hm' (e ▸ hkey)))
  rcases hf l m hm' with ⟨h1, h2⟩ | ⟨y, h1, h2, h3⟩
  ·exact .inl ⟨(if_neg hl).trans h1, by rw [has_put_other hne]; exact h2⟩
  ·exact .inr ⟨y, (if_neg hl).trans h1, by rw [has_put_other hne]; exact h2, fun z => by rw [atKey_put_other hne]; exact h3 z⟩
end
end Go.Proofs.Ythniclbmpeklmaa.Mp
end
section
namespace Go.Proofs.Ythniclbmpeklmaa.Mp
open Go.RowKit Go.Maps
set_option linter.unusedSectionVars false
section
variable {κ : Type} [DecidableEq κ] {c : κ → Value} {P : Program} {k t e : TypeId} {w : World} {b s : Nat} {f : κ → Option Value}
variable {ops : Array Oper} {rest : List Oper} {o : Oper} {a : Act} {Q : Exit → Act → World → Prop}
theorem wpl_look (hg : o.guard = none) (m x : Operand) (t : TypeId) (hop : o.op = Op.lookup t m x false) (h : MapIs c P k w b s f) (K : Keyed P k) (ht : P.underlying t = some (.map k e)) {z : Value} (hz : (zeroValue e).run P w = .ok z w) {y : κ} {kl : Lit} (hkey : keyOf P k (c y) = some kl)
  (hm : a.eval m = .map (some b)) (hx : a.eval x = c y) (hK : wpList P ops Q rest (a.put o.dst ((f y).getD z)) w) : wpList P ops Q (o :: rest) a w := by
 refine wpList_plain hg fun K' hK' => ?_
 have hrun := h.look K ht hz hkey
 unfold Oper.wp
 simp [execOp, hop, hm, hx, hrun, Result.andThen]
 exact hK' _ _ hK
theorem wpl_look_v (hg : o.guard = none) (m x : Operand) (t : TypeId) (hop : o.op = Op.lookup t m x false) (h : MapIs c P k w b s f) (K : Keyed P k) (ht : P.underlying t = some (.map k e)) {z : Value} (hz : (zeroValue e).run P w = .ok z w) {y : κ} {kl : Lit} (hkey : keyOf P k (c y) = some kl)
  (hm : a.eval m = .map (some b)) (hx : a.eval x = c y) {v : Value} (hv : (f y).getD z = v) (hK : wpList P ops Q rest (a.put o.dst v) w) : wpList P ops Q (o :: rest) a w := by
 subst hv
 exact wpl_look hg m x t hop h K ht hz hkey hm hx hK
theorem wpl_store (hc : ∀ x y, c x = c y → x = y) (hg : o.guard = none) (m x v : Operand) (t : TypeId) (hop : o.op = Op.mapUpdate t m x v) (h : MapIs c P k w b s f) (K : Keyed P k) (ht : P.underlying t = some (.map k e)) (hn : s < maxLen) {y : κ} {kl : Lit} (hkey : keyOf P k (c y) = some kl) {val : Value}
  (hm : a.eval m = .map (some b)) (hx : a.eval x = c y) (hv : a.eval v = val) (hK : ∀ w', MapIs c P k w' b (if (f y).isSome then s else s + 1) (fun l => if l = y then some val else f l) → w.grownBy w' (some b) → wpList P ops Q rest (a.put o.dst undef) w') : wpList P ops Q (o :: rest) a w := by
 refine wpList_plain hg fun K' hK' => ?_
 obtain ⟨w', hrun, h1, h2⟩ := h.store hc K ht hn hkey val
 unfold Oper.wp
 simp [execOp, hop, hm, hx, hv, hrun, Result.andThen]
 exact hK' _ _ (hK w' h1 h2.grown)
end
end Go.Proofs.Ythniclbmpeklmaa.Mp
end
section
namespace Go.Proofs.Ythniclbmpeklmaa.Mp
open Go.RowKit Go.Maps
open Go.WideMaps (KeyLaw)
open Go.ChangeMaps Go.WideElems Go.MapKept
section
variable {κ : Type} [DecidableEq κ] {c : κ → Value} {P : Program} {k t e : TypeId} {w : World} {b s : Nat} {f : κ → Option Value}
theorem setBlock_at {w : World} {b : Nat} {o o' : Obj} (h : w.heap[b]? = some o) : (setBlock w b o').heap[b]? = some o' := by
 have hb : b < w.heap.size := (Array.getElem?_eq_some_iff.1 h).1
 simp [setBlock, hb]
theorem setBlock_far (w : World) (b : Nat) (o' : Obj) {g : Nat} (hg : g ≠ b) : (setBlock w b o').heap[g]? = w.heap[g]? := by
 simp [setBlock, Ne.symm hg]
theorem setBlock_grown (w : World) (b : Nat) (o' : Obj) : w.grownBy (setBlock w b o') (some b) :=
 ⟨rfl, rfl, rfl, by simp [setBlock], fun g _ hg => setBlock_far w b o' (fun q => hg (by rw [q]))⟩
theorem MapIs.block {κ : Type} {c : κ → Value} {P : Program} {k : TypeId} {w : World} {b s : Nat} {f : κ → Option Value} (h : MapIs c P k w b s f) : ∃ es clock, w.heap[b]? = some (.map es clock) := by
 obtain ⟨D, ⟨es, cl, hb, _⟩, _⟩ := h
 exact ⟨es, cl, hb⟩
theorem MapIs.size_is {κ : Type} {c : κ → Value} {P : Program} {k : TypeId} {w : World} {b s : Nat} {f : κ → Option Value} (h : MapIs c P k w b s f) {es : Array MapEntry} {clock : Nat} (hb : w.heap[b]? = some (.map es clock)) : s = es.size := by
 obtain ⟨D, ⟨es', cl, hb', _, _, hD⟩, hs, _⟩ := h
 rw [hb] at hb'
 injection hb' with hb'
 injection hb' with hb' _
 rw [← hs, hD, hb']
 simp [Maps.size, length_sorted]
theorem entry_where {H : Type} {R : Value → Option (DataW H × List MemPlace)} {es : Array MapEntry} {clock : Nat} (K : KeyLaw P k) (ht : P.underlying t = some (.map k e)) {z : Value} (hz : ∀ u : World, (zeroValue e).run P u = .ok z u) (hb : w.heap[b]? = some (.map es clock)) (F : Fit P k R es clock) {key : Value} {kl : Lit} (hkey : keyOf P k key = some kl) :
  ∃ (v0 : Value) (st : Nat), (Instr.mapEntry t (.map (some b)) key).run P w = .ok (.tuple #[v0, goInt st]) (setBlock w b (.map es clock)) ∨
   ((Instr.mapEntry t (.map (some b)) key).run P w = .ok (.tuple #[v0, goInt st]) (setBlock w b (.map (es.push ⟨key, z, clock⟩) (clock + 1))) ∧ (Instr.mapUpdate t (.map (some b)) key z).run P w = .ok () (setBlock w b (.map (es.push ⟨key, z, clock⟩) (clock + 1))) ∧ ∀ x ∈ es.toList, x.key ≠ key) := by
 rcases K.find w hkey es.toList F.keys with ⟨h1, h2⟩ | ⟨j, e0, h1, h2, h3⟩
 ·refine ⟨z, clock, .inr ⟨?_, ?_, h2⟩⟩
  ·simp [Instr.mapEntry, run_underlying ht, MapKept.run_getObj_map hb, K.check w false hkey, h1, hz, MapKept.run_setObj_map _ hb, Result.andThen, setBlock]
  ·simp [Instr.mapUpdate, run_underlying ht, MapKept.run_getObj_map hb, K.check w false hkey, h1, MapKept.run_setObj_map _ hb, Result.andThen, setBlock]
 ·have hj : es[j]? = some e0 := by simpa using h2
  have hsame : es.modify j (fun e => { e with key := key }) = es := by
   apply Array.ext'
   rw [Array.toList_modify, modify_eq_set _ _ _ _ h2]
   have : ({ e0 with key := key } : MapEntry) = e0 := by rw [← h3]
   rw [this]
   exact set_self _ _ _ h2
  refine ⟨e0.val, e0.born, .inl ?_⟩
  simp [Instr.mapEntry, run_underlying ht, MapKept.run_getObj_map hb, K.check w false hkey, h1, hj, h3, K.stays w hkey, hsame, MapKept.run_setObj_map _ hb, Result.andThen, setBlock]
theorem MapIs.entry (hc : ∀ x y, c x = c y → x = y) (h : MapIs c P k w b s f) (KL : KeyLaw P k) (ht : P.underlying t = some (.map k e)) {z : Value} (hz : ∀ u : World, (zeroValue e).run P u = .ok z u) (hn : s < maxLen) {x : κ} {kl : Lit} (hkey : keyOf P k (c x) = some kl) :
  ∃ (v0 : Value) (st : Nat) (w1 : World), (Instr.mapEntry t (.map (some b)) (c x)).run P w = .ok (.tuple #[v0, goInt st]) w1 ∧ w.grownBy w1 (some b) ∧
   (∃ s1 f1, MapIs c P k w1 b s1 f1 ∧ (f1 x).getD z = (f x).getD z) ∧
   ∀ (w2 : World) (val : Value), w2.heap[b]? = w1.heap[b]? → ∃ w3, (Instr.entryStore t (.map (some b)) (goInt st) val).run P w2 = .ok () w3 ∧ MapIs c P k w3 b (if (f x).isSome then s else s + 1) (fun l => if l = x then some val else f l) ∧ w2.grownBy w3 (some b) := by
 have h0 := h
 obtain ⟨D, ⟨es, clock, hb, F, _, hD⟩, hs, hf⟩ := h
 obtain ⟨v0, st, es1, clock1, r1, _, r2⟩ := entry_then_store KL ht hz hb F hkey
 obtain ⟨v0', st', r3⟩ := entry_where KL ht hz hb F hkey
 have hw1 : (setBlock w b (.map es1 clock1)).heap[b]? = some (.map es1 clock1) := setBlock_at hb
 refine ⟨v0, st, _, r1, setBlock_grown _ _ _, ?_, fun w2 val h2 => ?_⟩
 ·rcases r3 with r3 | ⟨r3, r4, hno⟩
  ·have e1 := r1.symm.trans r3
   injection e1 with _ e1
   refine ⟨s, f, ?_, rfl⟩
   rw [e1]
   exact h0.move (by rw [setBlock_at hb, hb])
  ·have e1 := r1.symm.trans r3
   injection e1 with _ e1
   obtain ⟨w', q1, q2, _⟩ := h0.store hc (Keyed.of_law KL) ht hn hkey z
   have e2 := q1.symm.trans r4
   injection e2 with _ e2
   subst e2
   refine ⟨if (f x).isSome then s else s + 1, fun l => if l = x then some z else f l, ?_, ?_⟩
   ·rw [e1]; exact q2
   ·show (if x = x then some z else f x).getD z = _
    rw [if_pos rfl, Option.getD_some]
    rcases hf x kl hkey with ⟨a1, a2⟩ | ⟨y, a1, a2, a3⟩
    ·rw [a1]; rfl
    ·exfalso
     have n1 := h0.size_is hb
     have n2 := q2.size_is (setBlock_at hb)
     rw [a1, if_pos (show (some y).isSome = true from rfl), Array.size_push] at n2
     omega
 ·obtain ⟨es', clock', r5, r6⟩ := r2 w2 val (h2.trans hw1)
  obtain ⟨w', q1, q2, _⟩ := h0.store hc (Keyed.of_law KL) ht hn hkey val
  have e2 := q1.symm.trans r6
  injection e2 with _ e2
  subst e2
  refine ⟨_, r5, q2.move ?_, setBlock_grown _ _ _⟩
  rw [setBlock_at (h2.trans hw1), setBlock_at hb]
end
end Go.Proofs.Ythniclbmpeklmaa.Mp
end
section
namespace Go.Proofs.Ythniclbmpeklmaa.Au
set_option linter.unusedVariables false
structure Ev where
 k : Int
 wk : Int
 op : Int
 hn : Int
 hg : Int
 nn : Int
 ng : Int
 t : Int
 a : Int
 u : Int
 y : Bool
 er : Int
def zeroE : Ev := ⟨0, 0, 0, 0, 0, 0, 0, 0, 0, 0, false, 0⟩
abbrev Ha := Int × Int
abbrev Ev.h (e : Ev) : Ha := (e.hn, e.hg)
abbrev Ev.new (e : Ev) : Ha := (e.nn, e.ng)
structure Life where
 hn : Int
 hg : Int
 made : Int
 wk : Int
 til : Int
 dl : Int
structure Cl where
 e : Ev
 beg : Int
 clk : Int
 en : Int
structure Story where
 l : List Ev
 lives : List Life
 at_ : Ha → Option Nat
 calls : List Cl
 opn : Int → Option Nat
def noEnd : Int := 4611686018427387904
def firstN (p : Nat → Bool) : Nat → Option Nat
 | 0 => none
 | n + 1 => match firstN p n with
  | some i => some i
  | none => if p n then some n else none
theorem firstN_some {p : Nat → Bool} {n i : Nat} (h : firstN p n = some i) : i < n ∧ p i = true ∧ ∀ j, j < i → p j = false := by
 induction n with
 | zero => cases h
 | succ n ih =>
  unfold firstN at h
  cases hf : firstN p n with
  | some j =>
   rw [hf] at h
   obtain rfl : j = i := Option.some.inj h
   obtain ⟨h1, h2, h3⟩ := ih hf
   exact ⟨by omega, h2, h3⟩
  | none =>
   rw [hf] at h
   simp only at h
   by_cases hp : p n = true
   ·rw [if_pos hp] at h
    obtain rfl : n = i := Option.some.inj h
    refine ⟨by omega, hp, fun j hj => ?_⟩
    clear ih h hp
    induction n with
    | zero => omega
    | succ n ih2 =>
     unfold firstN at hf
     cases hf2 : firstN p n with
     | some z => rw [hf2] at hf; cases hf
     | none =>
      rw [hf2] at hf
      simp only at hf
      by_cases e : j = n
      ·subst e
       cases hq : p j with
       | false => rfl
       | true => rw [hq] at hf; simp at hf
      ·exact ih2 hf2 (by omega)
   ·rw [if_neg hp] at h
    cases h
theorem firstN_none {p : Nat → Bool} {n : Nat} (h : firstN p n = none) : ∀ j, j < n → p j = false := by
 induction n with
 | zero => intro j hj; omega
 | succ n ih =>
  intro j hj
  unfold firstN at h
  cases hf : firstN p n with
  | some z => rw [hf] at h; cases h
  | none =>
   rw [hf] at h
   simp only at h
   by_cases e : j = n
   ·subst e
    cases hq : p j with
    | false => rfl
    | true => rw [hq] at h; simp at h
   ·exact ih hf j (by omega)
theorem firstN_mk {p : Nat → Bool} {n i : Nat} (h1 : i < n) (h2 : p i = true) (h3 : ∀ j, j < i → p j = false) : firstN p n = some i := by
 cases hf : firstN p n with
 | none => rw [firstN_none hf i h1] at h2; cases h2
 | some j =>
  obtain ⟨a, b, c⟩ := firstN_some hf
  rcases Nat.lt_trichotomy i j with q | q | q
  ·rw [c i q] at h2; cases h2
  ·rw [q]
  ·rw [h3 j q] at b; cases b
theorem firstN_mk0 {p : Nat → Bool} {n : Nat} (h : ∀ j, j < n → p j = false) : firstN p n = none := by
 cases hf : firstN p n with
 | none => rfl
 | some j =>
  obtain ⟨a, b, c⟩ := firstN_some hf
  rw [h j a] at b; cases b
theorem firstN_congr {p q : Nat → Bool} {n : Nat} (h : ∀ j, j < n → p j = q j) : firstN p n = firstN q n := by
 induction n with
 | zero => rfl
 | succ n ih =>
  unfold firstN
  rw [ih (fun j hj => h j (by omega)), h n (by omega)]
def oI : Option Nat → Int
 | some i => i
 | none => -1
def mk1 (e : Ev) : Bool := e.k == 3 && e.er == 0 && (e.op == 1 || e.op == 3)
def ends (e : Ev) : Bool := (e.k == 4 || e.k == 3) && (e.k == 4 || (e.op == 2 && e.y) || (e.op == 3 && e.er == 0))
def mkP (g : Nat → Ev) (h : Ha) (i : Nat) : Bool := mk1 (g i) && decide ((g i).new = h)
def madeN (g : Nat → Ev) (n : Nat) (h : Ha) : Option Nat := firstN (mkP g h) n
def overP (g : Nat → Ev) (m : Nat) (h : Ha) (i : Nat) : Bool := decide (m < i) && (ends (g i) && decide ((g i).h = h))
def overN (g : Nat → Ev) (n m : Nat) (h : Ha) : Option Nat := firstN (overP g m h) n
def endP (g : Nat → Ev) (b i : Nat) : Bool := decide (b < i) && (decide ((g i).wk = (g b).wk) && ((g i).k == 2 || ((g i).k == 5 && decide ((g i).op = (g b).op))))
def endN (g : Nat → Ev) (n b : Nat) : Option Nat := (firstN (endP g b) n).bind fun i => if (g i).k = 5 then some i else none
def clkN (g : Nat → Ev) : Nat → Int
 | 0 => 0
 | n + 1 => if (g n).k = 1 then (g n).t else clkN g n
def tilI : Option Nat → Int
 | some i => i
 | none => noEnd
def updH (f : Ha → Option Nat) (h : Ha) (j : Nat) : Ha → Option Nat := fun x => if x = h then some j else f x
def updW (f : Int → Option Nat) (w : Int) (j : Nat) : Int → Option Nat := fun x => if x = w then some j else f x
def turn1 (s : Story) (i : Nat) (e : Ev) : Story :=
 match s.at_ e.h with
 | none => s
 | some k => match s.lives[k]? with
  | none => s
  | some x => if (e.k = 4 ∨ (e.op = 2 ∧ e.y = true) ∨ (e.op = 3 ∧ e.er = 0)) ∧ x.til > i then { s with lives := s.lives.set k { x with til := i } } else s
def turn2 (s : Story) (i : Nat) (e : Ev) : Story :=
 if e.k ≠ 3 ∨ e.er ≠ 0 ∨ (e.op ≠ 1 ∧ e.op ≠ 3) then s
 else match s.at_ e.new with
  | some _ => s
  | none => { s with at_ := updH s.at_ e.new s.lives.length, lives := s.lives ++ [⟨e.nn, e.ng, i, e.wk, noEnd, e.t⟩] }
def turnF (s : Story) (i : Nat) (e : Ev) : Story := turn2 (turn1 s i e) i e
def backF (s : Story) (i : Nat) (e : Ev) : Story :=
 match s.opn e.wk with
 | none => s
 | some k => match s.calls[k]? with
  | none => s
  | some q => if q.e.op = e.op ∧ q.en < 0 then { s with calls := s.calls.set k { q with en := i } } else s
def stepF (s : Story) (clk : Int) (i : Nat) (e : Ev) : Story :=
 let s := { s with l := s.l ++ [e] }
 if e.k = 1 then s
 else if e.k = 2 then { s with opn := updW s.opn e.wk s.calls.length, calls := s.calls ++ [⟨e, i, clk, -1⟩] }
 else if e.k = 5 then backF s i e
 else if e.k = 3 ∨ e.k = 4 then turnF s i e
 else s
def story0 : Story := ⟨[], [], fun _ => none, [], fun _ => none⟩
structure CallAt (g : Nat → Ev) (n : Nat) (q : Cl) (b : Nat) : Prop where
 lt : b < n
 beg : q.beg = b
 e : q.e = g b
 k : (g b).k = 2
 clk : q.clk = clkN g b
 en : q.en = oI (endN g n b)
structure LifeAt (g : Nat → Ev) (n : Nat) (x : Life) (m : Nat) : Prop where
 made : x.made = m
 h : madeN g n (x.hn, x.hg) = some m
 wk : x.wk = (g m).wk
 dl : x.dl = (g m).t
 til : x.til = tilI (overN g n m (x.hn, x.hg))
structure CInv (g : Nat → Ev) (n : Nat) (calls : List Cl) (opn : Int → Option Nat) : Prop where
 call : ∀ (j : Nat) q, calls[j]? = some q → ∃ b, CallAt g n q b
 has : ∀ b, b < n → (g b).k = 2 → ∃ (j : Nat) (q : Cl), calls[j]? = some q ∧ CallAt g n q b
 open0 : ∀ w, opn w = none → ∀ b, b < n → (g b).k = 2 → (g b).wk ≠ w
 open1 : ∀ w j, opn w = some j → ∃ q b, calls[j]? = some q ∧ CallAt g n q b ∧ (g b).wk = w ∧ ∀ b', b < b' → b' < n → (g b').k = 2 → (g b').wk ≠ w
 cin : ∀ (j j' : Nat) (q q' : Cl), calls[j]? = some q → calls[j']? = some q' → j < j' → q.beg < q'.beg
structure LInv (g : Nat → Ev) (n : Nat) (lives : List Life) (at_ : Ha → Option Nat) : Prop where
 life : ∀ (j : Nat) x, lives[j]? = some x → ∃ m, LifeAt g n x m
 at0 : ∀ h, at_ h = none → madeN g n h = none
 at1 : ∀ h j, at_ h = some j → ∃ x, lives[j]? = some x ∧ (x.hn, x.hg) = h
 lin : ∀ (j j' : Nat) (x x' : Life), lives[j]? = some x → lives[j']? = some x' → j < j' → x.made < x'.made
structure Inv (g : Nat → Ev) (n : Nat) (s : Story) : Prop where
 len : s.l.length = n
 l : ∀ i, i < n → s.l[i]? = some (g i)
 c : CInv g n s.calls s.opn
 v : LInv g n s.lives s.at_
theorem inv0 (g : Nat → Ev) : Inv g 0 story0 :=
 ⟨rfl, fun i h => by omega, ⟨fun j q h => by simp [story0] at h, fun b h => by omega, fun w _ b h => by omega, fun w j h => by simp [story0] at h, fun j j' x x' h => by simp [story0] at h⟩, ⟨fun j x h => by simp [story0] at h, fun h _ => rfl, fun h j e => by simp [story0] at e, fun j j' x x' h => by simp [story0] at h⟩⟩
theorem firstN_succ_some {p : Nat → Bool} {n i : Nat} (h : firstN p n = some i) : firstN p (n + 1) = some i := by unfold firstN; rw [h]
theorem firstN_succ_none {p : Nat → Bool} {n : Nat} (h : firstN p n = none) : firstN p (n + 1) = if p n then some n else none := by
 rw [firstN, h]
theorem firstN_succ_no {p : Nat → Bool} {n : Nat} (h : p n = false) : firstN p (n + 1) = firstN p n := by
 cases hf : firstN p n with
 | some i => exact firstN_succ_some hf
 | none => rw [firstN_succ_none hf, h]; rfl
theorem endN_no {g : Nat → Ev} {n b : Nat} (h : endP g b n = false) : endN g (n + 1) b = endN g n b := by unfold endN; rw [firstN_succ_no h]
theorem endN_stay {g : Nat → Ev} {n b i : Nat} (h : endN g n b = some i) : endN g (n + 1) b = some i := by
 unfold endN at h ⊢
 cases hf : firstN (endP g b) n with
 | none => rw [hf] at h; cases h
 | some j => rw [firstN_succ_some hf]; rw [hf] at h; exact h
theorem endN_later {g : Nat → Ev} {n b b' : Nat} (h1 : b < b') (h2 : b' < n) (hk : (g b').k = 2) (hw : (g b').wk = (g b).wk) : endN g (n + 1) b = endN g n b := by
 have hp : endP g b b' = true := by simp [endP, h1, hk, hw]
 unfold endN
 cases hf : firstN (endP g b) n with
 | none => rw [firstN_none hf b' h2] at hp; cases hp
 | some j => rw [firstN_succ_some hf]
theorem endN_new (g : Nat → Ev) (n : Nat) : endN g (n + 1) n = none := by
 unfold endN
 rw [firstN_mk0 (fun j hj => by unfold endP; rw [decide_eq_false (by omega)]; rfl)]
 rfl
theorem CallAt.up {g : Nat → Ev} {n : Nat} {q : Cl} {b : Nat} (h : CallAt g n q b) (he : endN g (n + 1) b = endN g n b) : CallAt g (n + 1) q b :=
 ⟨by have := h.lt; omega, h.beg, h.e, h.k, h.clk, by rw [he]; exact h.en⟩
theorem CallAt.uniq {g : Nat → Ev} {n : Nat} {q : Cl} {b b' : Nat} (h : CallAt g n q b) (h' : CallAt g n q b') : b = b' := by
 have := h.beg; have := h'.beg; omega
theorem overN_no {g : Nat → Ev} {n m : Nat} {h : Ha} (hh : overP g m h n = false) : overN g (n + 1) m h = overN g n m h := by unfold overN; rw [firstN_succ_no hh]
theorem madeN_no {g : Nat → Ev} {n : Nat} {h : Ha} (hh : mkP g h n = false) : madeN g (n + 1) h = madeN g n h := by unfold madeN; rw [firstN_succ_no hh]
theorem LifeAt.up {g : Nat → Ev} {n : Nat} {x : Life} {m : Nat} (h : LifeAt g n x m) (he : overN g (n + 1) m (x.hn, x.hg) = overN g n m (x.hn, x.hg)) : LifeAt g (n + 1) x m :=
 ⟨h.made, by unfold madeN; exact firstN_succ_some h.h, h.wk, h.dl, by rw [he]; exact h.til⟩
theorem get_push {α : Type} (l : List α) (x : α) (j : Nat) (y : α) (h : (l ++ [x])[j]? = some y) : l[j]? = some y ∨ (j = l.length ∧ y = x) := by
 by_cases hj : j < l.length
 ·rw [List.getElem?_append_left hj] at h; exact .inl h
 ·rw [List.getElem?_append_right (by omega)] at h
  have : j - l.length = 0 := by
   have := (List.getElem?_eq_some_iff.1 h).1
   simp at this
   omega
  rw [this] at h
  exact .inr ⟨by omega, by simpa using h.symm⟩
theorem get_old {α : Type} {l : List α} {x y : α} {j : Nat} (h : l[j]? = some y) : (l ++ [x])[j]? = some y := by
 rw [List.getElem?_append_left (List.getElem?_eq_some_iff.1 h).1]; exact h
theorem get_new {α : Type} (l : List α) (x : α) : (l ++ [x])[l.length]? = some x := by simp
theorem get_set {α : Type} (l : List α) (k : Nat) (x : α) (j : Nat) (y : α) (h : (l.set k x)[j]? = some y) : (j = k ∧ y = x) ∨ (j ≠ k ∧ l[j]? = some y) := by
 by_cases e : j = k
 ·subst e
  rw [List.getElem?_set_self' ] at h
  cases hl : l[j]? with
  | none => rw [hl] at h; cases h
  | some z => rw [hl] at h; exact .inl ⟨rfl, (Option.some.inj h).symm⟩
 ·rw [List.getElem?_set_ne (fun q => e q.symm)] at h
  exact .inr ⟨e, h⟩
theorem set_get {α : Type} {l : List α} {k : Nat} {x y : α} (h : l[k]? = some y) : (l.set k x)[k]? = some x := by
 rw [List.getElem?_set_self (List.getElem?_eq_some_iff.1 h).1]
theorem set_get_ne {α : Type} {l : List α} {k j : Nat} {x y : α} (h : l[j]? = some y) (e : j ≠ k) : (l.set k x)[j]? = some y := by
 rw [List.getElem?_set_ne (fun q => e q.symm)]; exact h
theorem endP_no {g : Nat → Ev} {n : Nat} (h2 : (g n).k ≠ 2) (h5 : (g n).k ≠ 5) (b : Nat) : endP g b n = false := by
 unfold endP
 rw [beq_eq_false_iff_ne.2 h2, beq_eq_false_iff_ne.2 h5]
 simp
theorem CInv.same {g : Nat → Ev} {n : Nat} {calls : List Cl} {opn : Int → Option Nat} (h : CInv g n calls opn) (h2 : (g n).k ≠ 2) (h5 : (g n).k ≠ 5) : CInv g (n + 1) calls opn := by
 have up : ∀ q b, CallAt g n q b → CallAt g (n + 1) q b := fun q b hq => hq.up (endN_no (endP_no h2 h5 b))
 refine ⟨fun j q hj => ?_, fun b hb hk => ?_, fun w hw b hb hk => ?_, fun w j hw => ?_, h.cin⟩
 ·obtain ⟨b, hq⟩ := h.call j q hj; exact ⟨b, up q b hq⟩
 ·have hne : b ≠ n := fun e => h2 (e ▸ hk)
  obtain ⟨j, q, hj, hq⟩ := h.has b (by omega) hk; exact ⟨j, q, hj, up q b hq⟩
 ·have hne : b ≠ n := fun e => h2 (e ▸ hk)
  exact h.open0 w hw b (by omega) hk
 ·obtain ⟨q, b, hj, hq, hb, hl⟩ := h.open1 w j hw
  refine ⟨q, b, hj, up q b hq, hb, fun b' h1 h3 hk => ?_⟩
  have hne : b' ≠ n := fun e => h2 (e ▸ hk)
  exact hl b' h1 (by omega) hk
theorem CInv.invoke {g : Nat → Ev} {n : Nat} {calls : List Cl} {opn : Int → Option Nat} (h : CInv g n calls opn) (h2 : (g n).k = 2) :
  CInv g (n + 1) (calls ++ [⟨g n, n, clkN g n, -1⟩]) (updW opn (g n).wk calls.length) := by
 have hnew : CallAt g (n + 1) ⟨g n, n, clkN g n, -1⟩ n := ⟨by omega, rfl, rfl, h2, rfl, by rw [endN_new]; rfl⟩
 have up : ∀ q b, CallAt g n q b → CallAt g (n + 1) q b := fun q b hq => hq.up (by
  have hb := hq.lt
  by_cases hw : (g n).wk = (g b).wk
  ·unfold endN
   cases hf : firstN (endP g b) n with
   | some j => rw [firstN_succ_some hf]
   | none =>
    rw [firstN_succ_none hf]
    by_cases hp : endP g b n = true
    ·rw [if_pos hp]; simp [h2]
    ·rw [if_neg hp]
  ·exact endN_no (by unfold endP; rw [decide_eq_false hw]; simp))
 refine ⟨fun j q hj => ?_, fun b hb hk => ?_, fun w hw b hb hk => ?_, fun w j hw => ?_, fun j j' q q' hj hj' hlt => ?_⟩
 ·rcases get_push _ _ _ _ hj with hj | ⟨_, rfl⟩
  ·obtain ⟨b, hq⟩ := h.call j q hj; exact ⟨b, up q b hq⟩
  ·exact ⟨n, hnew⟩
 ·by_cases e : b = n
  ·subst e; exact ⟨calls.length, _, get_new _ _, hnew⟩
  ·obtain ⟨j, q, hj, hq⟩ := h.has b (by omega) hk; exact ⟨j, q, get_old hj, up q b hq⟩
 ·unfold updW at hw
  by_cases e : w = (g n).wk
  ·rw [if_pos e] at hw; cases hw
  ·rw [if_neg e] at hw
   by_cases e2 : b = n
   ·subst e2; exact fun q => e q.symm
   ·exact h.open0 w hw b (by omega) hk
 ·unfold updW at hw
  by_cases e : w = (g n).wk
  ·rw [if_pos e] at hw
   obtain rfl : calls.length = j := Option.some.inj hw
   exact ⟨_, n, get_new _ _, hnew, e.symm, fun b' h1 h3 => by omega⟩
  ·rw [if_neg e] at hw
   obtain ⟨q, b, hj, hq, hb, hl⟩ := h.open1 w j hw
   refine ⟨q, b, get_old hj, up q b hq, hb, fun b' h1 h3 hk => ?_⟩
   by_cases e2 : b' = n
   ·subst e2; exact fun q => e q.symm
   ·exact hl b' h1 (by omega) hk
 ·rcases get_push _ _ _ _ hj' with hj' | ⟨rfl, rfl⟩
  ·rcases get_push _ _ _ _ hj with hj | ⟨rfl, rfl⟩
   ·exact h.cin j j' q q' hj hj' hlt
   ·have := (List.getElem?_eq_some_iff.1 hj').1; omega
  ·rcases get_push _ _ _ _ hj with hj | ⟨rfl, rfl⟩
   ·obtain ⟨b, hq⟩ := h.call j q hj
    have := hq.beg; have := hq.lt
    show q.beg < (n : Int)
    omega
   ·omega
theorem endN_last {g : Nat → Ev} {n b : Nat} (h5 : (g n).k = 5) (hb : b < n) (hw : (g n).wk = (g b).wk) (ho : (g n).op = (g b).op) (hl : ∀ b', b < b' → b' < n → (g b').k = 2 → (g b').wk ≠ (g b).wk) (he : endN g n b = none) : endN g (n + 1) b = some n := by
 unfold endN at he ⊢
 cases hf : firstN (endP g b) n with
 | some j =>
  exfalso
  rw [hf] at he
  obtain ⟨h1, h2, _⟩ := firstN_some hf
  by_cases hk : (g j).k = 5
  ·simp [hk] at he
  ·have : (g j).k = 2 ∧ (g j).wk = (g b).wk ∧ b < j := by
    unfold endP at h2
    simp at h2
    exact ⟨by rcases h2.2.2 with q | q; exact q; exact absurd q.1 hk, h2.2.1, h2.1⟩
   exact hl j this.2.2 h1 this.1 this.2.1
 | none =>
  rw [firstN_succ_none hf, if_pos (by simp [endP, hb, hw, h5, ho])]
  simp [h5]
theorem CInv.back {g : Nat → Ev} {n : Nat} {s : Story} (h : CInv g n s.calls s.opn) (h5 : (g n).k = 5) : CInv g (n + 1) (backF s n (g n)).calls (backF s n (g n)).opn := by
 have h2 : (g n).k ≠ 2 := by omega
 -- the call that the Return may end
 have other : ∀ q b, CallAt g n q b → (∀ j, s.opn (g n).wk = some j → ∀ q', s.calls[j]? = some q' → q'.beg = q.beg → ¬ (q.e.op = (g n).op ∧ q.en < 0)) → CallAt g (n + 1) q b := fun q b hq hno => hq.up (by
  by_cases hw : (g n).wk = (g b).wk
  ·by_cases hin : ∃ b', b < b' ∧ b' < n ∧ (g b').k = 2 ∧ (g b').wk = (g b).wk
   ·obtain ⟨b', h1, h3, h4, h6⟩ := hin; exact endN_later h1 h3 h4 h6
   ·cases ho : s.opn (g n).wk with
    | none => exact absurd hw.symm (h.open0 _ ho b hq.lt hq.k)
    | some j =>
     obtain ⟨q', b', hj, hq', hb', hl⟩ := h.open1 _ j ho
     have hbb : b' = b := by
      rcases Nat.lt_trichotomy b b' with z | z | z
      ·exact absurd ⟨b', z, hq'.lt, hq'.k, hb'.trans hw⟩ hin
      ·exact z.symm
      ·exact absurd (hw.symm) (hl b z hq.lt hq.k)
     subst hbb
     have hn := hno j ho q' hj (by rw [hq'.beg, hq.beg])
     cases he : endN g n b' with
     | some i => rw [endN_stay he]
     | none =>
      have : ¬ q.e.op = (g n).op := fun z => hn ⟨z, by rw [hq.en, he]; decide⟩
      rw [hq.e] at this
      rw [endN_no (by unfold endP; rw [h5]; simp; intro _ _; exact fun z => this z.symm), he]
  ·exact endN_no (by unfold endP; rw [decide_eq_false hw]; simp))
 have same : (∀ j, s.opn (g n).wk = some j → ∀ q', s.calls[j]? = some q' → ¬ (q'.e.op = (g n).op ∧ q'.en < 0)) → CInv g (n + 1) s.calls s.opn := fun hno => by
  have up : ∀ (j : Nat) q b, s.calls[j]? = some q → CallAt g n q b → CallAt g (n + 1) q b := fun j q b hj hq => other q b hq fun j' ho q' hj' hbe => by
   have hjj : j' = j := by
    rcases Nat.lt_trichotomy j j' with z | z | z
    ·have := h.cin j j' q q' hj hj' z; omega
    ·exact z.symm
    ·have := h.cin j' j q' q hj' hj z; omega
   subst hjj
   obtain rfl : q' = q := Option.some.inj (hj'.symm.trans hj)
   exact hno j' ho q' hj'
  refine ⟨fun j q hj => ?_, fun b hb hk => ?_, fun w hw b hb hk => ?_, fun w j hw => ?_, h.cin⟩
  ·obtain ⟨b, hq⟩ := h.call j q hj; exact ⟨b, up j q b hj hq⟩
  ·have hne : b ≠ n := fun e => h2 (e ▸ hk)
   obtain ⟨j, q, hj, hq⟩ := h.has b (by omega) hk; exact ⟨j, q, hj, up j q b hj hq⟩
  ·have hne : b ≠ n := fun e => h2 (e ▸ hk)
   exact h.open0 w hw b (by omega) hk
  ·obtain ⟨q, b, hj, hq, hb, hl⟩ := h.open1 w j hw
   refine ⟨q, b, hj, up j q b hj hq, hb, fun b' h1 h3 hk => ?_⟩
   have hne : b' ≠ n := fun e => h2 (e ▸ hk)
   exact hl b' h1 (by omega) hk
 unfold backF
 cases ho : s.opn (g n).wk with
 | none => exact same (fun j e => by rw [ho] at e; cases e)
 | some k =>
  obtain ⟨q, b, hj, hq, hb, hl⟩ := h.open1 _ k ho
  simp only [hj]
  by_cases hc : q.e.op = (g n).op ∧ q.en < 0
  ·rw [if_pos hc]
   have hen : endN g n b = none := by
    cases he : endN g n b with
    | none => rfl
    | some i => have := hc.2; rw [hq.en, he] at this; simp only [oI] at this; omega
   have hnew : CallAt g (n + 1) { q with en := (n : Int) } b :=
    ⟨by have := hq.lt; omega, hq.beg, hq.e, hq.k, hq.clk, by rw [endN_last h5 hq.lt hb.symm (by rw [← hq.e]; exact hc.1.symm) (fun b' h1 h3 hk => by rw [hb]; exact hl b' h1 h3 hk) hen]; rfl⟩
   have up : ∀ (j : Nat) q' b', j ≠ k → s.calls[j]? = some q' → CallAt g n q' b' → CallAt g (n + 1) q' b' := fun j q' b' hne hj' hq' => other q' b' hq' fun j2 ho2 q2 hj2 hbe => by
    exfalso
    rw [ho] at ho2
    obtain rfl : k = j2 := Option.some.inj ho2
    rcases Nat.lt_trichotomy j k with z | z | z
    ·have := h.cin j k q' q2 hj' hj2 z; omega
    ·exact hne z
    ·have := h.cin k j q2 q' hj2 hj' z; omega
   show CInv g (n + 1) (s.calls.set k { q with en := (n : Int) }) s.opn
   refine ⟨fun j q' hj' => ?_, fun b' hb' hk => ?_, fun w hw b' hb' hk => ?_, fun w j hw => ?_, fun j j' p p' hp hp' hlt => ?_⟩
   ·rcases get_set _ _ _ _ _ hj' with ⟨_, rfl⟩ | ⟨hne, hj'⟩
    ·exact ⟨b, hnew⟩
    ·obtain ⟨b', hq'⟩ := h.call j q' hj'; exact ⟨b', up j q' b' hne hj' hq'⟩
   ·have hne : b' ≠ n := fun e => h2 (e ▸ hk)
    obtain ⟨j, q', hj', hq'⟩ := h.has b' (by omega) hk
    by_cases e : j = k
    ·subst e
     obtain rfl : q' = q := Option.some.inj (hj'.symm.trans hj)
     obtain rfl := hq.uniq hq'
     exact ⟨j, _, set_get hj, hnew⟩
    ·exact ⟨j, q', set_get_ne hj' e, up j q' b' e hj' hq'⟩
   ·have hne : b' ≠ n := fun e => h2 (e ▸ hk)
    exact h.open0 w hw b' (by omega) hk
   ·obtain ⟨q', b', hj', hq', hb', hl'⟩ := h.open1 w j hw
    have hl2 : ∀ b'', b' < b'' → b'' < n + 1 → (g b'').k = 2 → (g b'').wk ≠ w := fun b'' h1 h3 hk => by
     have hne : b'' ≠ n := fun e => h2 (e ▸ hk)
     exact hl' b'' h1 (by omega) hk
    by_cases e : j = k
    ·subst e
     obtain rfl : q' = q := Option.some.inj (hj'.symm.trans hj)
     obtain rfl := hq.uniq hq'
     exact ⟨_, b, set_get hj, hnew, hb', hl2⟩
    ·exact ⟨q', b', set_get_ne hj' e, up j q' b' e hj' hq', hb', hl2⟩
   ·have bg : ∀ (j : Nat) p, (s.calls.set k { q with en := (n : Int) })[j]? = some p → ∃ p0, s.calls[j]? = some p0 ∧ p0.beg = p.beg := fun j p hp => by
     rcases get_set _ _ _ _ _ hp with ⟨rfl, rfl⟩ | ⟨_, hp⟩
     ·exact ⟨q, hj, rfl⟩
     ·exact ⟨p, hp, rfl⟩
    obtain ⟨p0, a1, a2⟩ := bg j p hp
    obtain ⟨p1, a3, a4⟩ := bg j' p' hp'
    have := h.cin j j' p0 p1 a1 a3 hlt
    omega
  ·rw [if_neg hc]
   refine same (fun j e q' hj' => ?_)
   rw [ho] at e
   obtain rfl : k = j := Option.some.inj e
   obtain rfl : q = q' := Option.some.inj (hj.symm.trans hj')
   exact hc
theorem ends_k {e : Ev} (h3 : e.k ≠ 3) (h4 : e.k ≠ 4) : ends e = false := by
 unfold ends
 rw [beq_eq_false_iff_ne.2 h3, beq_eq_false_iff_ne.2 h4]
 rfl
theorem mk1_k {e : Ev} (h3 : e.k ≠ 3) : mk1 e = false := by
 unfold mk1
 rw [beq_eq_false_iff_ne.2 h3]
 rfl
theorem LInv.same {g : Nat → Ev} {n : Nat} {lives : List Life} {at_ : Ha → Option Nat} (h : LInv g n lives at_) (h3 : (g n).k ≠ 3) (h4 : (g n).k ≠ 4) : LInv g (n + 1) lives at_ := by
 have up : ∀ x m, LifeAt g n x m → LifeAt g (n + 1) x m := fun x m hx => hx.up (overN_no (by unfold overP; rw [ends_k h3 h4]; simp))
 refine ⟨fun j x hj => ?_, fun k hk => ?_, h.at1, h.lin⟩
 ·obtain ⟨m, hx⟩ := h.life j x hj; exact ⟨m, up x m hx⟩
 ·rw [madeN_no (by unfold mkP; rw [mk1_k h3]; rfl)]; exact h.at0 k hk
theorem LInv.inj {g : Nat → Ev} {n : Nat} {lives : List Life} {at_ : Ha → Option Nat} (h : LInv g n lives at_) {j j' : Nat} {x x' : Life} (hj : lives[j]? = some x) (hj' : lives[j']? = some x') (e : (x.hn, x.hg) = (x'.hn, x'.hg)) : j = j' ∧ x = x' := by
 obtain ⟨m, hm⟩ := h.life j x hj
 obtain ⟨m', hm'⟩ := h.life j' x' hj'
 have e1 : some m = some m' := hm.h.symm.trans ((congrArg (madeN g n) e).trans hm'.h)
 have e2 : x.made = x'.made := by rw [hm.made, hm'.made, Option.some.inj e1]
 rcases Nat.lt_trichotomy j j' with z | z | z
 ·have := h.lin j j' x x' hj hj' z; omega
 ·subst z; exact ⟨rfl, Option.some.inj (hj.symm.trans hj')⟩
 ·have := h.lin j' j x' x hj' hj z; omega
structure LMid (g : Nat → Ev) (n : Nat) (lives : List Life) (at_ : Ha → Option Nat) : Prop where
 life : ∀ (j : Nat) x, lives[j]? = some x → ∃ m : Nat, x.made = m ∧ madeN g n (x.hn, x.hg) = some m ∧ x.wk = (g m).wk ∧ x.dl = (g m).t ∧ x.til = tilI (overN g (n + 1) m (x.hn, x.hg))
 at0 : ∀ h, at_ h = none → madeN g n h = none
 at1 : ∀ h j, at_ h = some j → ∃ x, lives[j]? = some x ∧ (x.hn, x.hg) = h
 lin : ∀ (j j' : Nat) (x x' : Life), lives[j]? = some x → lives[j']? = some x' → j < j' → x.made < x'.made
theorem overN_here {g : Nat → Ev} {n m : Nat} {h : Ha} (hm : m < n) (he : ends (g n) = true) (hh : (g n).h = h) (ho : overN g n m h = none) : overN g (n + 1) m h = some n := by
 unfold overN at ho ⊢
 rw [firstN_succ_none ho, if_pos (by unfold overP; rw [decide_eq_true hm, he, decide_eq_true hh]; rfl)]
theorem ends_34 {e : Ev} (h34 : e.k = 3 ∨ e.k = 4) : ends e = true ↔ (e.k = 4 ∨ (e.op = 2 ∧ e.y = true) ∨ (e.op = 3 ∧ e.er = 0)) := by
 unfold ends
 rcases h34 with h | h
 ·simp [h]
 ·simp [h]
theorem LInv.turn1 {g : Nat → Ev} {n : Nat} {s : Story} (h : LInv g n s.lives s.at_) (hn : (n : Int) < noEnd) (h34 : (g n).k = 3 ∨ (g n).k = 4) : LMid g n (turn1 s n (g n)).lives (turn1 s n (g n)).at_ := by
 have keep : (∀ (j : Nat) x m, s.lives[j]? = some x → LifeAt g n x m → overN g (n + 1) m (x.hn, x.hg) = overN g n m (x.hn, x.hg)) → LMid g n s.lives s.at_ := fun hk =>
  ⟨fun j x hj => by
   obtain ⟨m, hx⟩ := h.life j x hj
   exact ⟨m, hx.made, hx.h, hx.wk, hx.dl, by rw [hk j x m hj hx]; exact hx.til⟩, h.at0, h.at1, h.lin⟩
 have no : ∀ m (k : Ha), (g n).h ≠ k → overN g (n + 1) m k = overN g n m k := fun m k hne => overN_no (by unfold overP; rw [decide_eq_false hne]; simp)
 unfold Au.turn1
 cases ha : s.at_ (g n).h with
 | none =>
  refine keep fun j x m hj hx => no m _ fun e => ?_
  have := h.at0 _ ha
  rw [e, hx.h] at this
  cases this
 | some k =>
  obtain ⟨x, hk, hxh⟩ := h.at1 _ k ha
  obtain ⟨m, hm⟩ := h.life k x hk
  simp only [hk]
  by_cases hc : ((g n).k = 4 ∨ ((g n).op = 2 ∧ (g n).y = true) ∨ ((g n).op = 3 ∧ (g n).er = 0)) ∧ x.til > n
  ·rw [if_pos hc]
   have hnone : overN g n m (x.hn, x.hg) = none := by
    cases ho : overN g n m (x.hn, x.hg) with
    | none => rfl
    | some i =>
     have h1 := hm.til
     rw [ho] at h1
     have := (firstN_some ho).1
     have := hc.2
     simp only [tilI] at h1
     omega
   have hmn : m < n := (firstN_some hm.h).1
   have hov : overN g (n + 1) m (x.hn, x.hg) = some n := overN_here hmn ((ends_34 h34).2 hc.1) hxh.symm hnone
   refine ⟨fun j x' hj => ?_, h.at0, fun q j hq => ?_, fun j j' p p' hp hp' hlt => ?_⟩
   ·rcases get_set _ _ _ _ _ hj with ⟨_, rfl⟩ | ⟨hne, hj⟩
    ·exact ⟨m, hm.made, hm.h, hm.wk, hm.dl, by show (n : Int) = tilI (overN g (n + 1) m (x.hn, x.hg)); rw [hov]; rfl⟩
    ·obtain ⟨m', hx'⟩ := h.life j x' hj
     refine ⟨m', hx'.made, hx'.h, hx'.wk, hx'.dl, ?_⟩
     rw [no m' _ (fun e => hne (h.inj hj hk (by rw [hxh, e])).1)]
     exact hx'.til
   ·obtain ⟨x', hj, e⟩ := h.at1 q j hq
    by_cases ejk : j = k
    ·subst ejk
     obtain rfl : x = x' := Option.some.inj (hk.symm.trans hj)
     exact ⟨_, set_get hk, e⟩
    ·exact ⟨x', set_get_ne hj ejk, e⟩
   ·have bg : ∀ (j : Nat) p, (s.lives.set k { x with til := (n : Int) })[j]? = some p → ∃ p0, s.lives[j]? = some p0 ∧ p0.made = p.made := fun j p hp => by
     rcases get_set _ _ _ _ _ hp with ⟨rfl, rfl⟩ | ⟨_, hp⟩
     ·exact ⟨x, hk, rfl⟩
     ·exact ⟨p, hp, rfl⟩
    obtain ⟨p0, a1, a2⟩ := bg j p hp
    obtain ⟨p1, a3, a4⟩ := bg j' p' hp'
    have := h.lin j j' p0 p1 a1 a3 hlt
    omega
  ·rw [if_neg hc]
   refine keep fun j x' m' hj hx' => ?_
   by_cases e : (g n).h = (x'.hn, x'.hg)
   ·obtain ⟨rfl, rfl⟩ := h.inj hk hj (by rw [hxh, e])
    obtain rfl : m = m' := by have := hm.made; have := hx'.made; omega
    by_cases hen : ends (g n) = true
    ·cases ho : overN g n m (x.hn, x.hg) with
     | some i => unfold overN at ho ⊢; rw [firstN_succ_some ho]
     | none =>
      have h1 := hm.til
      rw [ho] at h1
      exact absurd ⟨(ends_34 h34).1 hen, by rw [h1]; exact hn⟩ hc
    ·exact overN_no (by unfold overP; simp [hen])
   ·exact no m' _ e
theorem overN_self (g : Nat → Ev) (n : Nat) (h : Ha) : overN g (n + 1) n h = none := by
 unfold overN
 exact firstN_mk0 fun j hj => by unfold overP; rw [decide_eq_false (by omega)]; rfl
theorem LMid.turn2 {g : Nat → Ev} {n : Nat} {s : Story} (h : LMid g n s.lives s.at_) (h34 : (g n).k = 3 ∨ (g n).k = 4) : LInv g (n + 1) (turn2 s n (g n)).lives (turn2 s n (g n)).at_ := by
 have up : ∀ (k : Ha) m, madeN g n k = some m → madeN g (n + 1) k = some m := fun k m hm => by unfold madeN; exact firstN_succ_some hm
 have same : (∀ k, madeN g n k = none → s.at_ k = none → mkP g k n = false) → LInv g (n + 1) s.lives s.at_ := fun hno =>
  ⟨fun j x hj => by
   obtain ⟨m, a, b, c, d, e⟩ := h.life j x hj
   exact ⟨m, a, up _ m b, c, d, e⟩, fun k hk => by
   have hk0 := h.at0 k hk
   rw [madeN_no (hno k hk0 hk)]; exact hk0, h.at1, h.lin⟩
 unfold Au.turn2
 by_cases hc : (g n).k ≠ 3 ∨ (g n).er ≠ 0 ∨ ((g n).op ≠ 1 ∧ (g n).op ≠ 3)
 ·rw [if_pos hc]
  refine same fun k _ _ => ?_
  have : mk1 (g n) = false := by
   unfold mk1
   rcases hc with q | q | ⟨q, r⟩
   ·rw [beq_eq_false_iff_ne.2 q]; rfl
   ·rw [beq_eq_false_iff_ne.2 q]; simp
   ·rw [beq_eq_false_iff_ne.2 q, beq_eq_false_iff_ne.2 r]; simp
  unfold mkP
  rw [this]; rfl
 ·rw [if_neg hc]
  have hmk : mk1 (g n) = true := by
   unfold mk1
   have a : (g n).k = 3 := Decidable.byContradiction fun q => hc (.inl q)
   have b : (g n).er = 0 := Decidable.byContradiction fun q => hc (.inr (.inl q))
   by_cases c : (g n).op = 1
   ·simp [a, b, c]
   ·have d : (g n).op = 3 := Decidable.byContradiction fun q => hc (.inr (.inr ⟨c, q⟩))
    simp [a, b, d]
  cases ha : s.at_ (g n).new with
  | some j =>
   simp only
   refine same fun k hk hk2 => ?_
   unfold mkP
   rw [decide_eq_false (fun e => by rw [← e] at hk2; rw [ha] at hk2; cases hk2)]
   simp
  | none =>
   simp only
   have hnone := h.at0 _ ha
   have hmade : madeN g (n + 1) (g n).new = some n := by
    unfold madeN at hnone ⊢
    rw [firstN_succ_none hnone, if_pos (by unfold mkP; rw [hmk]; simp)]
   have hnew : LifeAt g (n + 1) ⟨(g n).nn, (g n).ng, n, (g n).wk, noEnd, (g n).t⟩ n :=
    ⟨rfl, hmade, rfl, rfl, by show noEnd = tilI (overN g (n + 1) n _); rw [overN_self]; rfl⟩
   refine ⟨fun j x hj => ?_, fun k hk => ?_, fun k j hk => ?_, fun j j' p p' hp hp' hlt => ?_⟩
   ·rcases get_push _ _ _ _ hj with hj | ⟨_, rfl⟩
    ·obtain ⟨m, a, b, c, d, e⟩ := h.life j x hj
     exact ⟨m, a, up _ m b, c, d, e⟩
    ·exact ⟨n, hnew⟩
   ·have hk' : (if k = (g n).new then some s.lives.length else s.at_ k) = none := hk
    by_cases e : k = (g n).new
    ·rw [if_pos e] at hk'; cases hk'
    ·rw [if_neg e] at hk'
     rw [madeN_no (by unfold mkP; rw [decide_eq_false (fun q => e q.symm)]; simp)]
     exact h.at0 k hk'
   ·have hk' : (if k = (g n).new then some s.lives.length else s.at_ k) = some j := hk
    by_cases e : k = (g n).new
    ·rw [if_pos e] at hk'
     obtain rfl : s.lives.length = j := Option.some.inj hk'
     exact ⟨_, get_new _ _, e.symm⟩
    ·rw [if_neg e] at hk'
     obtain ⟨x, hj, hx⟩ := h.at1 k j hk'
     exact ⟨x, get_old hj, hx⟩
   ·rcases get_push _ _ _ _ hp' with hp' | ⟨rfl, rfl⟩
    ·rcases get_push _ _ _ _ hp with hp | ⟨rfl, rfl⟩
     ·exact h.lin j j' p p' hp hp' hlt
     ·have := (List.getElem?_eq_some_iff.1 hp').1; omega
    ·rcases get_push _ _ _ _ hp with hp | ⟨rfl, rfl⟩
     ·obtain ⟨m, a, b, _⟩ := h.life j p hp
      have := (firstN_some b).1
      show p.made < (n : Int)
      omega
     ·omega
theorem turn1_c (s : Story) (i : Nat) (e : Ev) : (turn1 s i e).calls = s.calls ∧ (turn1 s i e).opn = s.opn ∧ (turn1 s i e).l = s.l := by
 unfold turn1
 split
 ·exact ⟨rfl, rfl, rfl⟩
 ·split
  ·exact ⟨rfl, rfl, rfl⟩
  ·split <;> exact ⟨rfl, rfl, rfl⟩
theorem turn2_c (s : Story) (i : Nat) (e : Ev) : (turn2 s i e).calls = s.calls ∧ (turn2 s i e).opn = s.opn ∧ (turn2 s i e).l = s.l := by
 unfold turn2
 split
 ·exact ⟨rfl, rfl, rfl⟩
 ·split <;> exact ⟨rfl, rfl, rfl⟩
theorem backF_c (s : Story) (i : Nat) (e : Ev) : (backF s i e).lives = s.lives ∧ (backF s i e).at_ = s.at_ ∧ (backF s i e).l = s.l := by
 unfold backF
 split
 ·exact ⟨rfl, rfl, rfl⟩
 ·split
  ·exact ⟨rfl, rfl, rfl⟩
  ·split <;> exact ⟨rfl, rfl, rfl⟩
theorem Inv.step {g : Nat → Ev} {n : Nat} {s : Story} (h : Inv g n s) (hn : (n : Int) < noEnd) : Inv g (n + 1) (stepF s (clkN g n) n (g n)) := by
 have hl : (s.l ++ [g n]).length = n + 1 := by rw [List.length_append, h.len]; rfl
 have hg : ∀ i, i < n + 1 → (s.l ++ [g n])[i]? = some (g i) := fun i hi => by
  by_cases e : i = n
  ·subst e; rw [← h.len]; simp
  ·exact get_old (h.l i (by omega))
 unfold stepF
 by_cases k1 : (g n).k = 1
 ·simp only [if_pos k1]
  exact ⟨hl, hg, h.c.same (by omega) (by omega), h.v.same (by omega) (by omega)⟩
 by_cases k2 : (g n).k = 2
 ·simp only [if_neg k1, if_pos k2]
  exact ⟨hl, hg, h.c.invoke k2, h.v.same (by omega) (by omega)⟩
 by_cases k5 : (g n).k = 5
 ·simp only [if_neg k1, if_neg k2, if_pos k5]
  have c1 := backF_c { s with l := s.l ++ [g n] } n (g n)
  refine ⟨by rw [c1.2.2]; exact hl, fun i hi => by rw [c1.2.2]; exact hg i hi, CInv.back (s := { s with l := s.l ++ [g n] }) h.c k5, ?_⟩
  rw [c1.1, c1.2.1]
  exact h.v.same (by omega) (by omega)
 by_cases k34 : (g n).k = 3 ∨ (g n).k = 4
 ·simp only [if_neg k1, if_neg k2, if_neg k5, if_pos k34]
  have c1 := turn1_c { s with l := s.l ++ [g n] } n (g n)
  have c2 := turn2_c (turn1 { s with l := s.l ++ [g n] } n (g n)) n (g n)
  unfold turnF
  refine ⟨by rw [c2.2.2, c1.2.2]; exact hl, fun i hi => by rw [c2.2.2, c1.2.2]; exact hg i hi, ?_, ?_⟩
  ·rw [c2.1, c2.2.1, c1.1, c1.2.1]
   exact h.c.same k2 k5
  ·exact LMid.turn2 (LInv.turn1 (s := { s with l := s.l ++ [g n] }) h.v hn k34) k34
 ·simp only [if_neg k1, if_neg k2, if_neg k5, if_neg k34]
  exact ⟨hl, hg, h.c.same k2 k5, h.v.same (fun q => k34 (.inl q)) (fun q => k34 (.inr q))⟩
def storyN (g : Nat → Ev) : Nat → Story
 | 0 => story0
 | n + 1 => stepF (storyN g n) (clkN g n) n (g n)
theorem inv_all (g : Nat → Ev) (n : Nat) (hn : (n : Int) < noEnd) : Inv g n (storyN g n) := by
 induction n with
 | zero => exact inv0 g
 | succ n ih => exact (ih (by omega)).step (by omega)
end Go.Proofs.Ythniclbmpeklmaa.Au
end
section
namespace Go.Proofs.Ythniclbmpeklmaa.Au
set_option linter.unusedVariables false
def anyN (p : Nat → Bool) (n : Nat) : Bool := (firstN p n).isSome
theorem anyN_true {p : Nat → Bool} {n : Nat} : anyN p n = true ↔ ∃ i, i < n ∧ p i = true := by
 unfold anyN
 cases h : firstN p n with
 | none => exact ⟨(by intro q; cases q), fun ⟨i, h1, h2⟩ => by rw [firstN_none h i h1] at h2; cases h2⟩
 | some i => exact ⟨fun _ => ⟨i, (firstN_some h).1, (firstN_some h).2.1⟩, fun _ => rfl⟩
def twiceP (g : Nat → Ev) (i : Nat) : Bool := (g i).k == 4 && anyN (fun j => (g j).k == 4 && decide ((g j).h = (g i).h)) i
theorem get_mem {α : Type} {l : List α} {x : α} {j : Nat} (h : l[j]? = some x) : x ∈ l := by
 obtain ⟨hj, rfl⟩ := List.getElem?_eq_some_iff.1 h
 exact List.getElem_mem hj
def twiceI (g : Nat → Ev) (n : Nat) : Int := oI (firstN (twiceP g) n)
end Go.Proofs.Ythniclbmpeklmaa.Au
end
section
namespace Go.Proofs.Ythniclbmpeklmaa.Au
open Go.RowKit Go.Maps Go.Proofs.YthniclbmpeklmaaW.PrintWords Go.Proofs.YthniclbmpeklmaaW.PrintLast Go.Proofs.YthniclbmpeklmaaW.PrintMore Go.Proofs.Ythniclbmpeklmaa.Mp
set_option linter.unusedVariables false
set_option linter.unusedSimpArgs false
variable {α : Type}
abbrev evA (e : Ev) : Array Value := #[.int .i64 e.k, .int .i64 e.wk, .int .i64 e.op, .int .i64 e.hn, .int .i64 e.hg, .int .i64 e.nn, .int .i64 e.ng, .int .i64 e.t, .int .i64 e.a, .int .i64 e.u, .bool e.y, .int .i64 e.er]
abbrev lfA (x : Life) : Array Value := #[.int .i64 x.hn, .int .i64 x.hg, .int .i64 x.made, .int .i64 x.wk, .int .i64 x.til, .int .i64 x.dl]
abbrev clA (q : Cl) : Array Value := #[.int .i64 q.e.k, .int .i64 q.e.wk, .int .i64 q.e.op, .int .i64 q.e.hn, .int .i64 q.e.hg, .int .i64 q.e.nn, .int .i64 q.e.ng, .int .i64 q.e.t, .int .i64 q.e.a, .int .i64 q.e.u, .bool q.e.y, .int .i64 q.e.er, .int .i64 q.beg, .int .i64 q.clk, .int .i64 q.en]
abbrev haV (h : Ha) : Value := .agg #[.int .i64 h.1, .int .i64 h.2]
abbrev nV (f : α → Option Nat) : α → Option Value := fun x => (f x).map fun j => .int .i64 (j : Int)
def RowIs (w : World) (B T k : Nat) (A : α → Array Value) (v : Value) (l : List α) : Prop := w.ownsRow B T k v l.length (l.flatMap fun x => (A x).toList)
theorem flat_get {A : α → Array Value} {k : Nat} (hA : ∀ x, (A x).size = k) : ∀ (l : List α) (i j : Nat) (x : α), l[i]? = some x → j < k → (l.flatMap fun x => (A x).toList)[i * k + j]? = (A x)[j]?
 | [], i, j, x, h, hj => by simp at h
 | y :: l, 0, j, x, h, hj => by
  obtain rfl : y = x := by simpa using h
  rw [List.flatMap_cons, List.getElem?_append_left (by simp [hA]; omega)]
  simp
 | y :: l, i + 1, j, x, h, hj => by
  rw [List.flatMap_cons, List.getElem?_append_right (by simp only [Array.length_toList, hA]; rw [Nat.succ_mul]; omega)]
  rw [Array.length_toList, hA, show (i + 1) * k + j - k = i * k + j by rw [Nat.succ_mul]; omega]
  exact flat_get hA l i j x (by simpa using h) hj
theorem flat_len {A : α → Array Value} {k : Nat} (hA : ∀ x, (A x).size = k) (l : List α) : (l.flatMap fun x => (A x).toList).length = l.length * k := by
 induction l with
 | nil => simp
 | cons y l ih => rw [List.flatMap_cons, List.length_append, ih, Array.length_toList, hA, List.length_cons, Nat.succ_mul]; omega
theorem flat_set {A : α → Array Value} {k : Nat} (hA : ∀ x, (A x).size = k) : ∀ (l : List α) (i j : Nat) (x x' : α) (u : Value), l[i]? = some x → j < k → A x' = (A x).setIfInBounds j u → ((l.set i x').flatMap fun x => (A x).toList) = (l.flatMap fun x => (A x).toList).set (i * k + j) u
 | [], i, j, x, x', u, h, hj, e => by simp at h
 | y :: l, 0, j, x, x', u, h, hj, e => by
  obtain rfl : y = x := by simpa using h
  rw [sQ1, List.flatMap_cons, List.flatMap_cons, Nat.zero_mul, Nat.zero_add, List.set_append, if_pos (by simp [hA]; omega), e]
  simp
 | y :: l, i + 1, j, x, x', u, h, hj, e => by
  rw [sQ2, List.flatMap_cons, List.flatMap_cons, flat_set hA l i j x x' u (by simpa using h) hj e]
  rw [List.set_append, if_neg (by simp only [Array.length_toList, hA]; rw [Nat.succ_mul]; omega)]
  rw [Array.length_toList, hA, show (i + 1) * k + j - k = i * k + j by rw [Nat.succ_mul]; omega]
section
variable {w w1 : World} {B T k : Nat} {A : α → Array Value} {v : Value} {l : List α}
theorem RowIs.nil (w : World) (B T k : Nat) (A : α → Array Value) : RowIs w B T k A (.slice none 0 0) ([] : List α) := World.ownsRow_nil w B T k
theorem RowIs.at_ (h : RowIs w B T k A v l) (hA : ∀ x, (A x).size = k) {i : Nat} {x : α} (hx : l[i]? = some x) : ∃ g cap, v = .slice (some ⟨g, 0, none⟩) l.length cap ∧ l.length ≤ cap ∧ g < w.heap.size ∧ ∀ j, j < k → w.cell? ⟨g, i * k + j, none⟩ = (A x)[j]? := by
 have hi : i < l.length := (List.getElem?_eq_some_iff.1 hx).1
 rcases h.2 with ⟨rfl, hn⟩ | ⟨g, cap, cur, rfl, _, hg, hnc, _, hcs, htake⟩
 ·omega
 ·refine ⟨g, cap, rfl, hnc, blk_lt hg, fun j hj => ?_⟩
  have hlt : i * k + j < l.length * k := by
   have : (i + 1) * k ≤ l.length * k := Nat.mul_le_mul_right _ hi
   rw [Nat.succ_mul] at this
   omega
  rw [blk_cell hg, ← flat_get hA l i j x hx hj, ← htake, List.getElem?_take_of_lt hlt]
  simp
theorem RowIs.put {g cap : Nat} (h : RowIs w B T k A (.slice (some ⟨g, 0, none⟩) l.length cap) l) (hA : ∀ x, (A x).size = k) {i j : Nat} {x x' : α} {u : Value} (hx : l[i]? = some x) (hj : j < k) (e : A x' = (A x).setIfInBounds j u) :
  RowIs (w.setCell ⟨g, i * k + j, none⟩ u) B T k A (.slice (some ⟨g, 0, none⟩) (l.set i x').length cap) (l.set i x') := by
 have hi : i < l.length := (List.getElem?_eq_some_iff.1 hx).1
 unfold RowIs
 rw [flat_set hA l i j x x' u hx hj e]
 rcases h.2 with ⟨hn, _⟩ | ⟨g', cap', cur, hv, hb, hg, hnc, hcm, hcs, htake⟩
 ·cases hn
 ·obtain ⟨rfl, rfl⟩ : g' = g ∧ cap' = cap := by injection hv with a b c; injection a with a; injection a with a; exact ⟨a.symm, c.symm⟩
  refine ⟨by rw [List.length_set, List.length_set]; exact h.1, .inr ⟨g', cap', cur.setIfInBounds (i * k + j) u, rfl, hb, blk_set hg _ _, by simpa using hnc, hcm, by simpa using hcs, ?_⟩⟩
  rw [List.length_set, Array.toList_setIfInBounds, ← htake, List.take_set]
theorem RowIs.kept {row : Option Nat} (h : RowIs w B T k A v l) (hg : w.grownBy w1 row) (hne : v.ownBlock = none ∨ v.ownBlock ≠ row) : RowIs w1 B T k A v l := World.ownsRow.kept h hg hne
theorem RowIs.below (h : RowIs w B T k A v l) (hb : Below w.heap.size w w1) : RowIs w1 B T k A v l := pw_own_below h hb
theorem RowIs.own (h : RowIs w B T k A v l) {g : Nat} (hg : v.ownBlock = some g) : ∃ cur, w.heap[g]? = some (.cells cur T (0, 0)) := by
 rcases h.2 with ⟨rfl, hn⟩ | ⟨g', cap, cur, rfl, _, hb, _⟩
 ·cases hg
 ·obtain rfl : g' = g := by simpa [Value.ownBlock] using hg
  exact ⟨cur, hb⟩
theorem RowIs.far (h : RowIs w B T k A v l) {p : Addr} (hp : v.ownBlock ≠ some p.block) (u : Value) : RowIs (w.setCell p u) B T k A v l := by
 refine ⟨h.1, ?_⟩
 rcases h.2 with hn | ⟨g, cap, cur, rfl, hb, hg, rest⟩
 ·exact .inl hn
 ·exact .inr ⟨g, cap, cur, rfl, hb, blk_far hg (fun e => hp (by simp [Value.ownBlock, e])) u, rest⟩
end
theorem RowIs.form {α : Type} {w : World} {B T k : Nat} {A : α → Array Value} {v : Value} {l : List α} (h : RowIs w B T k A v l) : ∃ a cap, v = .slice a l.length cap ∧ l.length ≤ cap := by
 rcases h.2 with ⟨rfl, hn⟩ | ⟨g, cap, cur, rfl, _, hg, hnc, _⟩
 ·exact ⟨none, 0, by rw [hn], by omega⟩
 ·exact ⟨_, cap, rfl, hnc⟩
abbrev stA (vl vv vc : Value) (m1 m2 : Nat) : Array Value := #[vl, vv, .map (some m1), vc, .map (some m2)]
structure StIs (w : World) (B b n : Nat) (s : Story) (vl vv vc : Value) (m1 m2 : Nat) : Prop where
 blk : w.heap[b]? = some (.cells (stA vl vv vc m1 m2) 97 (0, 0))
 rl : RowIs w B 54 12 evA vl s.l
 rv : RowIs w B 99 6 lfA vv s.lives
 rc : RowIs w B 103 15 clA vc s.calls
 ma : ∃ z, z ≤ n ∧ MapIs haV Try.prog 34 w m1 z (nV s.at_)
 mo : ∃ z, z ≤ n ∧ MapIs (Value.int .i64) Try.prog 3 w m2 z (nV s.opn)
 hb : B ≤ b
 h1 : B ≤ m1
 h2 : B ≤ m2
 m12 : m1 ≠ m2
theorem lawI : Keyed Try.prog 3 := int_keyed Try.underlying3
theorem laidOut_ : laidOutB Try.prog = true := by kernel_rfl
theorem lawH : Keyed Try.prog 34 := Keyed.of_law (deep_law_laid laidOut_ (m := 3) (by decide) (of_decide_eq_true (by kernel_rfl)) (by kernel_rfl) (by kernel_rfl))
theorem ha_inj (x y : Ha) (h : haV x = haV y) : x = y := by
 injection h with h
 have h1 := congrArg (fun a => a[0]?) h
 have h2 := congrArg (fun a => a[1]?) h
 simp at h1 h2
 exact Prod.ext h1 h2
theorem int_inj' (x y : Int) (h : Value.int .i64 x = Value.int .i64 y) : x = y := by injection h
theorem zeroI (w : World) : (zeroValue 3).run Try.prog w = .ok (.int .i64 0) w := by kernel_rfl
section
variable {w w1 : World} {B b n m1 m2 : Nat} {s : Story} {vl vv vc : Value}
theorem types_ne {w : World} {g g' : Nat} {c c' : Array Value} {t t' : TypeId} (h : w.heap[g]? = some (.cells c t (0, 0))) (h' : w.heap[g']? = some (.cells c' t' (0, 0))) (e : t ≠ t') : g ≠ g' := by
 rintro rfl
 rw [h] at h'
 injection h' with h'
 injection h' with _ h'
 exact e h'
theorem map_ne {w : World} {g g' : Nat} {c : Array Value} {t : TypeId} {es : Array MapEntry} {cl : Nat} (h : w.heap[g]? = some (.cells c t (0, 0))) (h' : w.heap[g']? = some (.map es cl)) : g ≠ g' := by
 rintro rfl
 rw [h] at h'
 injection h' with h'
 cases h'
theorem StIs.move (h : StIs w B b n s vl vv vc m1 m2) (hb : ∀ g, g < w.heap.size → w1.heap[g]? = w.heap[g]?) : StIs w1 B b n s vl vv vc m1 m2 := by
 have row : ∀ {α : Type} {B T k : Nat} {A : α → Array Value} {v : Value} {l : List α}, RowIs w B T k A v l → RowIs w1 B T k A v l := fun r => by
  refine ⟨r.1, ?_⟩
  rcases r.2 with hn | ⟨g, cap, cur, rfl, hbase, hg, rest⟩
  ·exact .inl hn
  ·exact .inr ⟨g, cap, cur, rfl, hbase, (hb g (blk_lt hg)).trans hg, rest⟩
 obtain ⟨z1, hz1, h1⟩ := h.ma
 obtain ⟨z2, hz2, h2⟩ := h.mo
 exact ⟨(hb b (blk_lt h.blk)).trans h.blk, row h.rl, row h.rv, row h.rc, ⟨z1, hz1, h1.move (hb m1 h1.lt)⟩, ⟨z2, hz2, h2.move (hb m2 h2.lt)⟩, h.hb, h.h1, h.h2, h.m12⟩
theorem StIs.up {n' : Nat} (h : StIs w B b n s vl vv vc m1 m2) (hn : n ≤ n') : StIs w B b n' s vl vv vc m1 m2 := by
 obtain ⟨z1, hz1, h1⟩ := h.ma
 obtain ⟨z2, hz2, h2⟩ := h.mo
 exact ⟨h.blk, h.rl, h.rv, h.rc, ⟨z1, by omega, h1⟩, ⟨z2, by omega, h2⟩, h.hb, h.h1, h.h2, h.m12⟩
theorem StIs.below (h : StIs w B b n s vl vv vc m1 m2) (hb : Below w.heap.size w w1) : StIs w1 B b n s vl vv vc m1 m2 := h.move fun g hg => hb.block g hg
theorem StIs.alloc (h : StIs w B b n s vl vv vc m1 m2) (o : Obj) : StIs (w.alloc o) B b n s vl vv vc m1 m2 := h.below (below_alloc (Below.refl _ _) o)
theorem StIs.drew (h : StIs w B b n s vl vv vc m1 m2) : StIs w.drew B b n s vl vv vc m1 m2 := h.move fun g hg => rfl
theorem StIs.drewN (h : StIs w B b n s vl vv vc m1 m2) (q : Nat) : StIs (w.drewN q) B b n s vl vv vc m1 m2 := h.move fun g hg => rfl
theorem StIs.cell (h : StIs w B b n s vl vv vc m1 m2) (i : Nat) : w.cell? ⟨b, i, none⟩ = (stA vl vv vc m1 m2)[i]? := blk_cell h.blk i
theorem StIs.lt (h : StIs w B b n s vl vv vc m1 m2) : b < w.heap.size := blk_lt h.blk
end
structure Fr (w w' : World) (S : Nat → Prop) : Prop where
 os : w'.os = w.os
 tape : w'.tape = w.tape
 output : w'.output = w.output
 size : w.heap.size ≤ w'.heap.size
 block : ∀ g, g < w.heap.size → ¬ S g → w'.heap[g]? = w.heap[g]?
section
variable {w w1 w2 : World} {S S' : Nat → Prop}
theorem Fr.refl (w : World) (S : Nat → Prop) : Fr w w S := ⟨rfl, rfl, rfl, Nat.le_refl _, fun _ _ _ => rfl⟩
theorem Fr.trans (h : Fr w w1 S) (h' : Fr w1 w2 S) : Fr w w2 S := ⟨h'.os.trans h.os, h'.tape.trans h.tape, h'.output.trans h.output, Nat.le_trans h.size h'.size, fun g hg hs => (h'.block g (Nat.lt_of_lt_of_le hg h.size) hs).trans (h.block g hg hs)⟩
theorem Fr.mono (h : Fr w w1 S) (hs : ∀ g, S g → S' g) : Fr w w1 S' := ⟨h.os, h.tape, h.output, h.size, fun g hg hn => h.block g hg (fun q => hn (hs g q))⟩
theorem Fr.of_below (h : Below w.heap.size w w1) (S : Nat → Prop) : Fr w w1 S := ⟨h.os, h.tape, h.output, h.size, fun g hg _ => h.block g hg⟩
theorem Fr.of_grown {row : Option Nat} (h : w.grownBy w1 row) : Fr w w1 (fun g => some g = row) := ⟨h.os, h.tape, h.output, h.size, fun g hg hn => h.block g hg hn⟩
theorem Fr.alloc (h : Fr w w1 S) (o : Obj) : Fr w (w1.alloc o) S := h.trans (Fr.of_below (below_alloc (Below.refl _ _) o) S)
theorem Fr.drew (h : Fr w w1 S) : Fr w w1.drew S := ⟨h.os, h.tape, h.output, h.size, h.block⟩
theorem Fr.drewN (h : Fr w w1 S) (n : Nat) : Fr w (w1.drewN n) S := ⟨h.os, h.tape, h.output, h.size, h.block⟩
theorem Fr.set (h : Fr w w1 S) (p : Addr) (u : Value) (hp : w.heap.size ≤ p.block ∨ S p.block) : Fr w (w1.setCell p u) S :=
 ⟨h.os, h.tape, h.output, by simpa using h.size, fun g hg hn => (Below.heap_setCell w1 p u g (fun e => by subst e; rcases hp with q | q; omega; exact hn q)).trans (h.block g hg hn)⟩
theorem Fr.below {B : Nat} (h : Fr w w1 S) (hB : B ≤ w.heap.size) (hs : ∀ g, S g → B ≤ g) : Below B w w1 := ⟨h.os, h.tape, h.output, h.size, fun g hg => h.block g (by omega) (fun q => by have := hs g q; omega)⟩
end
end Go.Proofs.Ythniclbmpeklmaa.Au
end
section
set_option maxHeartbeats 4000000
set_option maxRecDepth 100000
namespace Go.Proofs.Ythniclbmpeklmaa.Au
open Go.RowKit Go.Maps Go.Proofs.YthniclbmpeklmaaW.PrintWords Go.Proofs.YthniclbmpeklmaaW.PrintLast Go.Proofs.YthniclbmpeklmaaW.PrintMore Go.Proofs.Ythniclbmpeklmaa.Mp
set_option linter.unusedVariables false
set_option linter.unusedSimpArgs false
theorem look_at {w : World} {m1 z : Nat} {f : Ha → Option Nat} (h : MapIs haV Try.prog 34 w m1 z (nV f)) {hn hg : Int} {kl : Lit} (hk : keyOf Try.prog 34 (haV (hn, hg)) = some kl) (W : World) (hb : W.heap[m1]? = w.heap[m1]?) :
  (Instr.lookup 86 (.map (some m1)) (.agg #[.int .i64 hn, .int .i64 hg]) true).run Try.prog W = .ok (.tuple #[.int .i64 (((f (hn, hg)).map (fun j => (j : Int))).getD 0), .bool (f (hn, hg)).isSome]) W := by
 have := (h.move hb).look_ok lawH Try.underlying86 (zeroI W) (x := (hn, hg)) hk
 rw [show (haV (hn, hg)) = .agg #[.int .i64 hn, .int .i64 hg] from rfl] at this
 rw [this]
 unfold nV
 cases f (hn, hg) <;> rfl
def TurnPost (B b n : Nat) (s : Story) (vl vc vv : Value) (m1 m2 : Nat) (w : World) (e : Ending) (w' : World) : Prop :=
 e = .returned (.tuple #[]) ∧ ∃ vv', StIs w' B b n s vl vv' vc m1 m2 ∧ Fr w w' (fun g => g = b ∨ g = m1 ∨ some g = vv.ownBlock)
theorem gen_world {P : Program} {c : Code} {Q : Exit → Act → World → Prop} {a : Act} {w : World} (R : World → Prop) (h : R w) (k : ∀ W, R W → c.wp P Q a W) : c.wp P Q a w := k w h
structure Mid (w W : World) (B b n m1 m2 : Nat) (vv0 : Value) (s : Story) (vl vv vc : Value) (e : Ev) : Prop where
 st : StIs W B b n s vl vv vc m1 m2
 ev : W.heap[w.heap.size]? = some (.cells (evA e) 54 (0, 0))
 fr : Fr w W (fun g => g = b ∨ g = m1 ∨ some g = vv0.ownBlock)
 m12 : m1 ≠ m2
section
variable {w W W1 : World} {B b n m1 m2 : Nat} {s : Story} {vl vv vc vv0 : Value} {e : Ev}
theorem Mid.alloc (h : Mid w W B b n m1 m2 vv0 s vl vv vc e) (o : Obj) : Mid w (W.alloc o) B b n m1 m2 vv0 s vl vv vc e := ⟨h.st.alloc o, blk_alloc h.ev o, h.fr.alloc o, h.m12⟩
theorem Mid.start (h : StIs w B b n s vl vv vc m1 m2) (e : Ev) : Mid w (w.alloc (.cells (evA e) 54)) B b n m1 m2 vv s vl vv vc e := ⟨h.alloc _, blk_new _ _, (Fr.refl _ _).alloc _, h.m12⟩
theorem Mid.drewN (h : Mid w W B b n m1 m2 vv0 s vl vv vc e) (q : Nat) : Mid w (W.drewN q) B b n m1 m2 vv0 s vl vv vc e := ⟨h.st.drewN q, h.ev, h.fr.drewN q, h.m12⟩
theorem Mid.drew (h : Mid w W B b n m1 m2 vv0 s vl vv vc e) : Mid w W.drew B b n m1 m2 vv0 s vl vv vc e := ⟨h.st.drew, h.ev, h.fr.drew, h.m12⟩
theorem Mid.put {g cap k : Nat} {x : Life} (i : Int) (h : Mid w W B b n m1 m2 (.slice (some ⟨g, 0, none⟩) s.lives.length cap) s vl (.slice (some ⟨g, 0, none⟩) s.lives.length cap) vc e) (hx : s.lives[k]? = some x) :
  Mid w (W.setCell ⟨g, k * 6 + 4, none⟩ (.int .i64 i)) B b n m1 m2 (.slice (some ⟨g, 0, none⟩) s.lives.length cap) { s with lives := s.lives.set k { x with til := i } } vl (.slice (some ⟨g, 0, none⟩) s.lives.length cap) vc e := by
 obtain ⟨cur, hg⟩ := h.st.rv.own (show (Value.slice (some ⟨g, 0, none⟩) s.lives.length cap).ownBlock = some g from rfl)
 obtain ⟨z1, hz1, hm1⟩ := h.st.ma
 obtain ⟨z2, hz2, hm2⟩ := h.st.mo
 obtain ⟨_, _, q1⟩ := hm1.block
 obtain ⟨_, _, q2⟩ := hm2.block
 have n1 := map_ne hg q1
 have n2 := map_ne hg q2
 have nb := types_ne hg h.st.blk (by decide)
 have ne := types_ne hg h.ev (by decide)
 have row : ∀ {α : Type} {T k : Nat} {A : α → Array Value} {v : Value} {l : List α}, RowIs W B T k A v l → 99 ≠ T → v.ownBlock ≠ some g := fun r ht hv => by
  obtain ⟨cur', hg'⟩ := r.own hv
  exact types_ne hg hg' ht rfl
 have hput := h.st.rv.put (fun _ => rfl) (i := k) (j := 4) (x' := { x with til := i }) (u := .int .i64 i) hx (by decide) rfl
 rw [List.length_set] at hput
 refine ⟨⟨blk_far h.st.blk (Ne.symm nb) _, h.st.rl.far (row h.st.rl (by decide)) _, hput, h.st.rc.far (row h.st.rc (by decide)) _, ⟨z1, hz1, hm1.move (Below.heap_setCell _ _ _ _ (Ne.symm n1))⟩, ⟨z2, hz2, hm2.move (Below.heap_setCell _ _ _ _ (Ne.symm n2))⟩, h.st.hb, h.st.h1, h.st.h2, h.st.m12⟩, blk_far h.ev (Ne.symm ne) _, h.fr.set _ _ (.inr (.inr (.inr rfl))), h.m12⟩
theorem Mid.stored {f' : Ha → Option Nat} {z' : Nat} (h : Mid w W B b n m1 m2 vv0 s vl vv vc e) (hm : MapIs haV Try.prog 34 W1 m1 z' (nV f')) (hz : z' ≤ n + 1) (hg : W.grownBy W1 (some m1)) : Mid w W1 B b (n + 1) m1 m2 vv0 { s with at_ := f' } vl vv vc e := by
 obtain ⟨z1, hz1, hm1⟩ := h.st.ma
 obtain ⟨z2, hz2, hm2⟩ := h.st.mo
 obtain ⟨_, _, q1⟩ := hm1.block
 obtain ⟨_, _, q2⟩ := hm2.block
 have row : ∀ {α : Type} {T k : Nat} {A : α → Array Value} {v : Value} {l : List α}, RowIs W B T k A v l → RowIs W1 B T k A v l := by
  intro α T k A v l r
  refine r.kept hg ?_
  cases hv : v.ownBlock with
  | none => exact .inl rfl
  | some g => exact .inr (fun q => by obtain ⟨cur, hc⟩ := r.own hv; exact map_ne hc q1 (Option.some.inj q))
 have h12 : m2 ≠ m1 := fun q => h.m12 q.symm
 exact ⟨⟨blk_grown h.st.blk hg (fun q => map_ne h.st.blk q1 (Option.some.inj q)), row h.st.rl, row h.st.rv, row h.st.rc, ⟨z', hz, hm⟩, ⟨z2, by omega, hm2.move (hg.block m2 hm2.lt (fun q => h12 (Option.some.inj q)))⟩, h.st.hb, h.st.h1, h.st.h2, h.m12⟩, blk_grown h.ev hg (fun q => map_ne h.ev q1 (Option.some.inj q)),
  h.fr.trans ((Fr.of_grown hg).mono (fun g q => .inr (.inl (Option.some.inj q)))), h.m12⟩
theorem Mid.appended {v' : Value} {x : Life} (h : Mid w W B b n m1 m2 vv s vl vv vc e) (hown : RowIs W1 B 99 6 lfA v' (s.lives ++ [x])) (hg : W.grownBy W1 vv.ownBlock) (hat : v'.ownBlock = vv.ownBlock ∨ v'.ownBlock = some W.heap.size) :
  W1.heap[b]? = some (.cells (stA vl vv vc m1 m2) 97 (0, 0)) ∧ Mid w (W1.setCell ⟨b, 1, none⟩ v') B b n m1 m2 vv { s with lives := s.lives ++ [x] } vl v' vc e := by
 obtain ⟨z1, hz1, hm1⟩ := h.st.ma
 obtain ⟨z2, hz2, hm2⟩ := h.st.mo
 obtain ⟨_, _, q1⟩ := hm1.block
 obtain ⟨_, _, q2⟩ := hm2.block
 have ne_map : ∀ (g : Nat) es cl, W.heap[g]? = some (.map es cl) → some g ≠ vv.ownBlock := fun g es cl hq q => by
  obtain ⟨cur, hc⟩ := h.st.rv.own q.symm
  exact map_ne hc hq rfl
 have ne_typ : ∀ (g t : Nat) cs, W.heap[g]? = some (.cells cs t (0, 0)) → 99 ≠ t → some g ≠ vv.ownBlock := fun g t cs hq ht q => by
  obtain ⟨cur, hc⟩ := h.st.rv.own q.symm
  exact types_ne hc hq ht rfl
 have row : ∀ {α : Type} {T k : Nat} {A : α → Array Value} {v : Value} {l : List α}, RowIs W B T k A v l → 99 ≠ T → RowIs W1 B T k A v l := by
  intro α T k A v l r ht
  refine r.kept hg ?_
  cases hv : v.ownBlock with
  | none => exact .inl rfl
  | some g => exact .inr (fun q => by obtain ⟨cur, hc⟩ := r.own hv; exact ne_typ g _ _ hc ht q)
 have hb1 := blk_grown h.st.blk hg (ne_typ _ _ _ h.st.blk (by decide))
 have he1 := blk_grown h.ev hg (ne_typ _ _ _ h.ev (by decide))
 have hm1' := hm1.move (hg.block m1 hm1.lt (ne_map _ _ _ q1))
 have hm2' := hm2.move (hg.block m2 hm2.lt (ne_map _ _ _ q2))
 obtain ⟨_, _, q1'⟩ := hm1'.block
 obtain ⟨_, _, q2'⟩ := hm2'.block
 have far : ∀ {α : Type} {T k : Nat} {A : α → Array Value} {v : Value} {l : List α}, RowIs W1 B T k A v l → 97 ≠ T → v.ownBlock ≠ some b := fun r ht hv => by
  obtain ⟨cur', hg'⟩ := r.own hv
  exact types_ne hb1 hg' ht rfl
 refine ⟨hb1, ⟨⟨?_, (row h.st.rl (by decide)).far (far (row h.st.rl (by decide)) (by decide)) _, hown.far (far hown (by decide)) _, (row h.st.rc (by decide)).far (far (row h.st.rc (by decide)) (by decide)) _, ⟨z1, hz1, hm1'.move (Below.heap_setCell _ _ _ _ (map_ne hb1 q1').symm)⟩, ⟨z2, hz2, hm2'.move (Below.heap_setCell _ _ _ _ (map_ne hb1 q2').symm)⟩, h.st.hb, h.st.h1, h.st.h2, h.m12⟩, blk_far he1 (types_ne hb1 he1 (by decide)).symm _, (h.fr.trans ((Fr.of_grown hg).mono (fun g q => .inr (.inr q)))).set _ _ (.inr (.inl rfl)), h.m12⟩⟩
 exact blk_set hb1 1 v'
theorem Mid.look (h : Mid w W B b n m1 m2 vv0 s vl vv vc e) {hn hg : Int} (hw : ∃ kl, keyOf Try.prog 34 (haV (hn, hg)) = some kl) (W' : World) (hb : W'.heap[m1]? = W.heap[m1]?) :
  (Instr.lookup 86 (.map (some m1)) (.agg #[.int .i64 hn, .int .i64 hg]) true).run Try.prog W' = .ok (.tuple #[.int .i64 (((s.at_ (hn, hg)).map (fun j => (j : Int))).getD 0), .bool (s.at_ (hn, hg)).isSome]) W' := by
 obtain ⟨kl, hk⟩ := hw
 obtain ⟨z1, hz1, hm1⟩ := h.st.ma
 exact look_at hm1 hk W' hb
end
theorem life_info : (Try.prog.info? 99).map (fun i => (i.zero, i.size, i.bytes)) = some (some (.agg #[.int .i64 0, .int .i64 0, .int .i64 0, .int .i64 0, .int .i64 0, .int .i64 0]), 6, 48) := by kernel_rfl
theorem still_tail_at {P : Program} {id : Nat} {Q : Exit → Act → World → Prop} {a : Act} {w : World} {l : List Oper} (n : Nat) (hm : P.follows .mixedOrders = true) (hB : Region.lexTailB .any l.toArray n = true)
  (h : ∀ w2, w2 = w.drew → wpStill P l.toArray w2 (fun a' => wpList P l.toArray Q (l.drop n) a' w2) (l.take n) a) : (Code.region id l.toArray true).wp P Q a w :=
 wp_region_still_tail n hm hB (h _ rfl)
theorem Mid.cells {w W : World} {B b n m1 m2 : Nat} {s : Story} {vl vv vc vv0 : Value} {e : Ev} (h : Mid w W B b n m1 m2 vv0 s vl vv vc e) : (∀ i, W.cell? ⟨b, i, none⟩ = (stA vl vv vc m1 m2)[i]?) ∧ (∀ i, W.cell? ⟨w.heap.size, i, none⟩ = (evA e)[i]?) ∧ (∀ i, W.frozen? ⟨b, i, none⟩ = false) :=
 ⟨fun i => h.st.cell i, fun i => blk_cell h.ev i, fun i => blk_frozen h.st.blk i⟩
theorem step_lives {w W : World} {B b n m1 m2 : Nat} {s : Story} {vl vv vc : Value} {e : Ev} {ops : Array Oper} {o : Oper} {a : Act} {K : Act → World → Prop} {Q : Exit → Act → World → Prop} {E : Prop} (hgd : o.guard = none) (p q : Operand)
  (ho : o.op = .call { callee := .builtin .append, args := #[p, q], argTypes := #[93, 93] }) (h : Mid w W B b n m1 m2 vv s vl vv vc e) (x : Life) (hp : a.eval p = vv) (hq : a.eval q = .slice (some ⟨W.heap.size, 0, none⟩) 1 1) (hll : s.lives.length ≤ 1000000)
  (hK : ∀ gg cap w6, ((∀ i, w6.cell? ⟨b, i, none⟩ = (stA vl vv vc m1 m2)[i]?) ∧ (∀ i, w6.cell? ⟨w.heap.size, i, none⟩ = (evA e)[i]?) ∧ (∀ i, w6.frozen? ⟨b, i, none⟩ = false)) ∧ Mid w (w6.setCell ⟨b, 1, none⟩ (.slice (some ⟨gg, 0, none⟩) (s.lives.length + 1) cap)) B b n m1 m2 vv { s with lives := s.lives ++ [x] } vl (.slice (some ⟨gg, 0, none⟩) (s.lives.length + 1) cap) vc e → K (a.put o.dst (.slice (some ⟨gg, 0, none⟩) (s.lives.length + 1) cap)) w6) :
  if Region.wanted o (yielded ops a.tmps) = true then Oper.wp Try.prog o a (W.alloc (.cells (lfA x) 99)) K Q else E := by
 obtain ⟨i0, hi0, hz0, hz1, hz2⟩ := info_parts life_info
 have hA := h.alloc (.cells (lfA x) 99)
 refine step_append_lies _ hgd p q _ ho B 99 i0 _ 6 48 Try.underlying93 hi0 hz0 hz1 hz2 rfl (by omega) vv s.lives.length _ hp hA.st.rv ⟨W.heap.size, 0, none⟩ 1 1 (lfA x).toList hq rfl (World.news_of_block (cs := lfA x) (t := 99) (fr := (0, 0)) (heap_alloc_new W _)) (by simp [Value.oneCell']) (by omega) (by unfold maxLen; omega) (by omega) (by have := h.st.hb; have := h.st.lt; simp; omega) _ rfl ?_
 intro g cap w6 hown hgrow hat hlt
 have hrow : RowIs w6 B 99 6 lfA (.slice (some ⟨g, 0, none⟩) (s.lives.length + 1) cap) (s.lives ++ [x]) := by
  unfold RowIs
  rw [List.length_append, List.flatMap_append]
  simpa using hown
 have hap := hA.appended hrow hgrow (by
  rcases hat with q | q
  ·exact .inl q.symm
  ·exact .inr (by rw [q]; rfl))
 refine hK _ _ _ ⟨⟨fun i => blk_cell hap.1 i, fun i => ?_, fun i => blk_frozen hap.1 i⟩, hap.2⟩
 have he := hap.2.ev
 have hne := types_ne hap.1 (show w6.heap[w.heap.size]? = _ from (Below.heap_setCell w6 ⟨b, 1, none⟩ (.slice (some ⟨g, 0, none⟩) (s.lives.length + 1) cap) w.heap.size (fun q => by have := h.ev; have h2 := h.st.blk; rw [q] at this; rw [this] at h2; cases h2)).symm.trans he) (by decide)
 exact blk_cell ((Below.heap_setCell w6 ⟨b, 1, none⟩ (.slice (some ⟨g, 0, none⟩) (s.lives.length + 1) cap) w.heap.size (Ne.symm hne)).symm.trans he) i
theorem turn1_no {s : Story} {i : Nat} {e : Ev} (h : ¬ (e.k = 4 ∨ (e.op = 2 ∧ e.y = true) ∨ (e.op = 3 ∧ e.er = 0))) : turn1 s i e = s := by
 unfold turn1
 split
 ·rfl
 ·split
  ·rfl
  ·exact if_neg (fun q => h q.1)
theorem turn1_none {s : Story} {i : Nat} {e : Ev} (h : s.at_ e.h = none) : turn1 s i e = s := by unfold turn1; rw [h]
theorem turn1_set {s : Story} {i k : Nat} {e : Ev} {x : Life} (h : s.at_ e.h = some k) (hx : s.lives[k]? = some x) (ho : e.k = 4 ∨ (e.op = 2 ∧ e.y = true) ∨ (e.op = 3 ∧ e.er = 0)) (ht : x.til > i) : turn1 s i e = { s with lives := s.lives.set k { x with til := i } } := by
 unfold turn1; simp only [h, hx]; rw [if_pos ⟨ho, ht⟩]
theorem turn1_keep {s : Story} {i k : Nat} {e : Ev} {x : Life} (h : s.at_ e.h = some k) (hx : s.lives[k]? = some x) (ht : ¬ x.til > i) : turn1 s i e = s := by
 unfold turn1; simp only [h, hx]; rw [if_neg (fun q => ht q.2)]
theorem turn2_no {s : Story} {i : Nat} {e : Ev} (h : e.k ≠ 3 ∨ e.er ≠ 0 ∨ (e.op ≠ 1 ∧ e.op ≠ 3)) : turn2 s i e = s := by unfold turn2; rw [if_pos h]
theorem turn2_old {s : Story} {i k : Nat} {e : Ev} (h : s.at_ e.new = some k) : turn2 s i e = s := by unfold turn2; rw [h]; split <;> rfl
theorem turn2_new {s : Story} {i : Nat} {e : Ev} (hc : ¬ (e.k ≠ 3 ∨ e.er ≠ 0 ∨ (e.op ≠ 1 ∧ e.op ≠ 3))) (h : s.at_ e.new = none) : turn2 s i e = { s with at_ := updH s.at_ e.new s.lives.length, lives := s.lives ++ [⟨e.nn, e.ng, i, e.wk, noEnd, e.t⟩] } := by unfold turn2; rw [if_neg hc, h]
theorem nV_upd (f : Ha → Option Nat) (h : Ha) (j : Nat) : (fun l => if l = h then some (.int .i64 (j : Int)) else nV f l) = nV (updH f h j) := by
 funext l
 unfold nV updH
 by_cases e : l = h <;> simp [e]
def turn.T9 : Bool × List (List Nat × List Nat) := (true, [([], []), ([], []), ([1], [1]), ([2], [2]), ([3], [3]), ([], []), ([5], [5]), ([], []), ([], []), ([8], [8]), ([], []), ([10], [10]), ([6, 7, 9, 11], [6, 7, 9, 11]), ([12], [12]), ([4, 13], [4, 13]), ([0, 0, 1, 2, 3, 4, 5, 6, 7, 8, 9, 10, 11, 12, 13, 14], [0]), ([15, 0, 1, 2, 3, 4, 5, 6, 7, 8, 9, 10, 11, 12, 13, 14], [15]), ([16, 14, 14, 0, 1, 2, 3, 4, 5, 6, 7, 8, 9, 10, 11, 12, 13, 14], [14, 16])])
def turn.B9 : List Nat := [0, 0, 2, 6, 14, 0, 32, 0, 0, 256, 0, 1024, 4064, 8160, 16382, 32767, 65535, 131071]
theorem turn.tab9 : rtab .any (opsOf Try.f84 9) = turn.T9 := by kernel_rfl
theorem turn.bits9 : waitsOk turn.T9.2 turn.B9 = true := by kernel_rfl
theorem turn_fire_none {B b n m1 m2 : Nat} {s : Story} {vl vv vc : Value} (i : Nat) (e : Ev) (w : World) (hB : StIs w B b n s vl vv vc m1 m2) (hw : ∃ kl, keyOf Try.prog 34 (haV e.h) = some kl) (hw2 : ∃ kl, keyOf Try.prog 34 (haV e.new) = some kl) (hn : n ≤ 1000000) (hll : s.lives.length ≤ 1000000) (hk : e.k = 4) (ha : s.at_ e.h = none) :
  Calls Try.prog 84 #[.pointer (some ⟨b, 0, none⟩), .int .i64 (i : Int), .agg (evA e)] w (TurnPost B b (n + 1) (turnF s i e) vl vc vv m1 m2 w) := by
 have hu97 := Try.underlying97
 have hu54 := Try.underlying54
 have hu34 := Try.underlying34
 have hu99 := Try.underlying99
 have HF1 := Aside0.mk (show turn1 s i e = s from turn1_none ha)
 have HF := Aside0.mk (show turnF s i e = s by unfold turnF; rw [HF1.out]; exact turn2_no (by omega))
 have qk4 : (e.k == 4) = true := beq_iff_eq.2 (by omega)
 have rk4 : (e.k != 4) = false := bne_eq_false_iff_eq.2 (by omega)
 have qk3 : (e.k == 3) = false := beq_eq_false_iff_ne.2 (by omega)
 have rk3 : (e.k != 3) = true := bne_iff_ne.2 (by omega)
 have hl0 := fun q => (Mid.start hB e).look hw ((w.alloc (.cells (evA e) 54)).drewN q) rfl
 rw [show (e.hn, e.hg) = e.h from rfl, ha] at hl0
 simp only [Option.map_none, Option.getD_none, Option.isSome_none] at hl0
 have HB := Aside0.mk hB
 have hlt := hB.lt
 have hc := fun i => hB.cell i
 have HW2 := Aside0.mk hw2
 have HN := Aside0.mk hn
 have HLL := Aside0.mk hll
 clear hB hw hw2 hn hll hk ha
 go_enter Try.func84, Try.ntmps84
 go_wp2
 go_quiet (fail)
 go_wp2
 all_goals
  go_end0
  exact ⟨rfl, _, by rw [HF.out]; exact ((Mid.start HB.out e).drewN _).st.up (by omega), ((Mid.start HB.out e).drewN _).fr⟩
theorem turn_fire_set {B b n m1 m2 : Nat} {s : Story} {vl vv vc : Value} (i : Nat) (e : Ev) (w : World) (hB : StIs w B b n s vl vv vc m1 m2) (hw : ∃ kl, keyOf Try.prog 34 (haV e.h) = some kl) (hw2 : ∃ kl, keyOf Try.prog 34 (haV e.new) = some kl) (hn : n ≤ 1000000) (hll : s.lives.length ≤ 1000000) (hk : e.k = 4) (k : Nat) (x : Life) (ha : s.at_ e.h = some k) (hx : s.lives[k]? = some x) (ht : x.til > i) :
  Calls Try.prog 84 #[.pointer (some ⟨b, 0, none⟩), .int .i64 (i : Int), .agg (evA e)] w (TurnPost B b (n + 1) (turnF s i e) vl vc vv m1 m2 w) := by
 have hu97 := Try.underlying97
 have hu54 := Try.underlying54
 have hu34 := Try.underlying34
 have hu99 := Try.underlying99
 have HF1 := Aside0.mk (show turn1 s i e = { s with lives := s.lives.set k { x with til := (i : Int) } } from turn1_set ha hx (.inl hk) ht)
 have HF := Aside0.mk (show turnF s i e = { s with lives := s.lives.set k { x with til := (i : Int) } } by unfold turnF; rw [HF1.out]; exact turn2_no (by omega))
 have qk4 : (e.k == 4) = true := beq_iff_eq.2 (by omega)
 have rk4 : (e.k != 4) = false := bne_eq_false_iff_eq.2 (by omega)
 have qk3 : (e.k == 3) = false := beq_eq_false_iff_ne.2 (by omega)
 have rk3 : (e.k != 3) = true := bne_iff_ne.2 (by omega)
 have hl0 := fun q => (Mid.start hB e).look hw ((w.alloc (.cells (evA e) 54)).drewN q) rfl
 rw [show (e.hn, e.hg) = e.h from rfl, ha] at hl0
 simp only [Option.map_some, Option.getD_some, Option.isSome_some] at hl0
 obtain ⟨g, cp, rfl, hcp, hgl, hcell⟩ := hB.rv.at_ (fun _ => rfl) hx
 have hkl : k < s.lives.length := (List.getElem?_eq_some_iff.1 hx).1
 have p0 := eq_true (show (0 : Int) ≤ (k : Int) by omega)
 have p1 := eq_true (show (k : Int) < (s.lives.length : Int) by omega)
 have c4 := (below_alloc (Below.refl w.heap.size w) (.cells (evA e) 54)).cell (p := ⟨g, k * 6 + 4, none⟩) hgl |>.trans (hcell 4 (by decide))
 have gt : decide (x.til > (i : Int)) = true := decide_eq_true ht
 obtain ⟨cur, hcur⟩ := hB.rv.own (show (Value.slice (some ⟨g, 0, none⟩) s.lives.length cp).ownBlock = some g from rfl)
 have fz := blk_frozen (blk_alloc hcur (.cells (evA e) 54)) (k * 6 + 4)
 have HX := Aside0.mk hx
 clear hcur hx
 clear hcell hkl
 have HB := Aside0.mk hB
 have hlt := hB.lt
 have hc := fun i => hB.cell i
 have HW2 := Aside0.mk hw2
 have HN := Aside0.mk hn
 have HLL := Aside0.mk hll
 clear hB hw hw2 hn hll hk ha ht
 go_enter Try.func84, Try.ntmps84
 go_wp2
 go_quiet (fail)
 go_wp2
 all_goals
  go_end0
  exact ⟨rfl, _, by rw [HF.out]; exact (((Mid.start HB.out e).drewN _).put (i : Int) HX.out).st.up (by omega), (((Mid.start HB.out e).drewN _).put (i : Int) HX.out).fr⟩
theorem turn_fire_keep {B b n m1 m2 : Nat} {s : Story} {vl vv vc : Value} (i : Nat) (e : Ev) (w : World) (hB : StIs w B b n s vl vv vc m1 m2) (hw : ∃ kl, keyOf Try.prog 34 (haV e.h) = some kl) (hw2 : ∃ kl, keyOf Try.prog 34 (haV e.new) = some kl) (hn : n ≤ 1000000) (hll : s.lives.length ≤ 1000000) (hk : e.k = 4) (k : Nat) (x : Life) (ha : s.at_ e.h = some k) (hx : s.lives[k]? = some x) (ht : ¬ x.til > i) :
  Calls Try.prog 84 #[.pointer (some ⟨b, 0, none⟩), .int .i64 (i : Int), .agg (evA e)] w (TurnPost B b (n + 1) (turnF s i e) vl vc vv m1 m2 w) := by
 have hu97 := Try.underlying97
 have hu54 := Try.underlying54
 have hu34 := Try.underlying34
 have hu99 := Try.underlying99
 have HF1 := Aside0.mk (show turn1 s i e = s from turn1_keep ha hx ht)
 have HF := Aside0.mk (show turnF s i e = s by unfold turnF; rw [HF1.out]; exact turn2_no (by omega))
 have qk4 : (e.k == 4) = true := beq_iff_eq.2 (by omega)
 have rk4 : (e.k != 4) = false := bne_eq_false_iff_eq.2 (by omega)
 have qk3 : (e.k == 3) = false := beq_eq_false_iff_ne.2 (by omega)
 have rk3 : (e.k != 3) = true := bne_iff_ne.2 (by omega)
 have hl0 := fun q => (Mid.start hB e).look hw ((w.alloc (.cells (evA e) 54)).drewN q) rfl
 rw [show (e.hn, e.hg) = e.h from rfl, ha] at hl0
 simp only [Option.map_some, Option.getD_some, Option.isSome_some] at hl0
 obtain ⟨g, cp, rfl, hcp, hgl, hcell⟩ := hB.rv.at_ (fun _ => rfl) hx
 have hkl : k < s.lives.length := (List.getElem?_eq_some_iff.1 hx).1
 have p0 := eq_true (show (0 : Int) ≤ (k : Int) by omega)
 have p1 := eq_true (show (k : Int) < (s.lives.length : Int) by omega)
 have c4 := (below_alloc (Below.refl w.heap.size w) (.cells (evA e) 54)).cell (p := ⟨g, k * 6 + 4, none⟩) hgl |>.trans (hcell 4 (by decide))
 have gt : decide (x.til > (i : Int)) = false := decide_eq_false ht
 clear hcell hkl hx
 have HB := Aside0.mk hB
 have hlt := hB.lt
 have hc := fun i => hB.cell i
 have HW2 := Aside0.mk hw2
 have HN := Aside0.mk hn
 have HLL := Aside0.mk hll
 clear hB hw hw2 hn hll hk ha ht
 go_enter Try.func84, Try.ntmps84
 go_wp2
 go_quiet (fail)
 go_wp2
 all_goals
  go_end0
  exact ⟨rfl, _, by rw [HF.out]; exact ((Mid.start HB.out e).drewN _).st.up (by omega), ((Mid.start HB.out e).drewN _).fr⟩
theorem turn_cancel_none {B b n m1 m2 : Nat} {s : Story} {vl vv vc : Value} (i : Nat) (e : Ev) (w : World) (hB : StIs w B b n s vl vv vc m1 m2) (hw : ∃ kl, keyOf Try.prog 34 (haV e.h) = some kl) (hw2 : ∃ kl, keyOf Try.prog 34 (haV e.new) = some kl) (hn : n ≤ 1000000) (hll : s.lives.length ≤ 1000000) (hk : e.k = 3) (ho : e.op = 2) (hy : e.y = true) (ha : s.at_ e.h = none) :
  Calls Try.prog 84 #[.pointer (some ⟨b, 0, none⟩), .int .i64 (i : Int), .agg (evA e)] w (TurnPost B b (n + 1) (turnF s i e) vl vc vv m1 m2 w) := by
 have hu97 := Try.underlying97
 have hu54 := Try.underlying54
 have hu34 := Try.underlying34
 have hu99 := Try.underlying99
 have HF1 := Aside0.mk (show turn1 s i e = s from turn1_none ha)
 have HF := Aside0.mk (show turnF s i e = s by unfold turnF; rw [HF1.out]; exact turn2_no (by omega))
 have qk4 : (e.k == 4) = false := beq_eq_false_iff_ne.2 (by omega)
 have rk4 : (e.k != 4) = true := bne_iff_ne.2 (by omega)
 have qk3 : (e.k == 3) = true := beq_iff_eq.2 (by omega)
 have rk3 : (e.k != 3) = false := bne_eq_false_iff_eq.2 (by omega)
 have qop2 : (e.op == 2) = true := beq_iff_eq.2 (by omega)
 have rop2 : (e.op != 2) = false := bne_eq_false_iff_eq.2 (by omega)
 have qop3 : (e.op == 3) = false := beq_eq_false_iff_ne.2 (by omega)
 have rop3 : (e.op != 3) = true := bne_iff_ne.2 (by omega)
 have qop1 : (e.op == 1) = false := beq_eq_false_iff_ne.2 (by omega)
 have rop1 : (e.op != 1) = true := bne_iff_ne.2 (by omega)
 have hl0 := fun q => (Mid.start hB e).look hw ((w.alloc (.cells (evA e) 54)).drewN q) rfl
 rw [show (e.hn, e.hg) = e.h from rfl, ha] at hl0
 simp only [Option.map_none, Option.getD_none, Option.isSome_none] at hl0
 have HB := Aside0.mk hB
 have hlt := hB.lt
 have hc := fun i => hB.cell i
 have HW2 := Aside0.mk hw2
 have HN := Aside0.mk hn
 have HLL := Aside0.mk hll
 clear hB hw hw2 hn hll hk ho ha
 go_enter Try.func84, Try.ntmps84
 go_wp2
 go_quiet (fail)
 go_wp2
 all_goals
  go_end0
  exact ⟨rfl, _, by rw [HF.out]; exact ((Mid.start HB.out e).drewN _).st.up (by omega), ((Mid.start HB.out e).drewN _).fr⟩
theorem turn_cancel_set {B b n m1 m2 : Nat} {s : Story} {vl vv vc : Value} (i : Nat) (e : Ev) (w : World) (hB : StIs w B b n s vl vv vc m1 m2) (hw : ∃ kl, keyOf Try.prog 34 (haV e.h) = some kl) (hw2 : ∃ kl, keyOf Try.prog 34 (haV e.new) = some kl) (hn : n ≤ 1000000) (hll : s.lives.length ≤ 1000000) (hk : e.k = 3) (ho : e.op = 2) (hy : e.y = true) (k : Nat) (x : Life) (ha : s.at_ e.h = some k) (hx : s.lives[k]? = some x) (ht : x.til > i) :
  Calls Try.prog 84 #[.pointer (some ⟨b, 0, none⟩), .int .i64 (i : Int), .agg (evA e)] w (TurnPost B b (n + 1) (turnF s i e) vl vc vv m1 m2 w) := by
 have hu97 := Try.underlying97
 have hu54 := Try.underlying54
 have hu34 := Try.underlying34
 have hu99 := Try.underlying99
 have HF1 := Aside0.mk (show turn1 s i e = { s with lives := s.lives.set k { x with til := (i : Int) } } from turn1_set ha hx (.inr (.inl ⟨ho, hy⟩)) ht)
 have HF := Aside0.mk (show turnF s i e = { s with lives := s.lives.set k { x with til := (i : Int) } } by unfold turnF; rw [HF1.out]; exact turn2_no (by omega))
 have qk4 : (e.k == 4) = false := beq_eq_false_iff_ne.2 (by omega)
 have rk4 : (e.k != 4) = true := bne_iff_ne.2 (by omega)
 have qk3 : (e.k == 3) = true := beq_iff_eq.2 (by omega)
 have rk3 : (e.k != 3) = false := bne_eq_false_iff_eq.2 (by omega)
 have qop2 : (e.op == 2) = true := beq_iff_eq.2 (by omega)
 have rop2 : (e.op != 2) = false := bne_eq_false_iff_eq.2 (by omega)
 have qop3 : (e.op == 3) = false := beq_eq_false_iff_ne.2 (by omega)
 have rop3 : (e.op != 3) = true := bne_iff_ne.2 (by omega)
 have qop1 : (e.op == 1) = false := beq_eq_false_iff_ne.2 (by omega)
 have rop1 : (e.op != 1) = true := bne_iff_ne.2 (by omega)
 have hl0 := fun q => (Mid.start hB e).look hw ((w.alloc (.cells (evA e) 54)).drewN q) rfl
 rw [show (e.hn, e.hg) = e.h from rfl, ha] at hl0
 simp only [Option.map_some, Option.getD_some, Option.isSome_some] at hl0
 obtain ⟨g, cp, rfl, hcp, hgl, hcell⟩ := hB.rv.at_ (fun _ => rfl) hx
 have hkl : k < s.lives.length := (List.getElem?_eq_some_iff.1 hx).1
 have p0 := eq_true (show (0 : Int) ≤ (k : Int) by omega)
 have p1 := eq_true (show (k : Int) < (s.lives.length : Int) by omega)
 have c4 := (below_alloc (Below.refl w.heap.size w) (.cells (evA e) 54)).cell (p := ⟨g, k * 6 + 4, none⟩) hgl |>.trans (hcell 4 (by decide))
 have gt : decide (x.til > (i : Int)) = true := decide_eq_true ht
 obtain ⟨cur, hcur⟩ := hB.rv.own (show (Value.slice (some ⟨g, 0, none⟩) s.lives.length cp).ownBlock = some g from rfl)
 have fz := blk_frozen (blk_alloc hcur (.cells (evA e) 54)) (k * 6 + 4)
 have HX := Aside0.mk hx
 clear hcur hx
 clear hcell hkl
 have HB := Aside0.mk hB
 have hlt := hB.lt
 have hc := fun i => hB.cell i
 have HW2 := Aside0.mk hw2
 have HN := Aside0.mk hn
 have HLL := Aside0.mk hll
 clear hB hw hw2 hn hll hk ho ha ht
 go_enter Try.func84, Try.ntmps84
 go_wp2
 go_quiet (fail)
 go_wp2
 all_goals
  go_end0
  exact ⟨rfl, _, by rw [HF.out]; exact (((Mid.start HB.out e).drewN _).put (i : Int) HX.out).st.up (by omega), (((Mid.start HB.out e).drewN _).put (i : Int) HX.out).fr⟩
theorem turn_cancel_keep {B b n m1 m2 : Nat} {s : Story} {vl vv vc : Value} (i : Nat) (e : Ev) (w : World) (hB : StIs w B b n s vl vv vc m1 m2) (hw : ∃ kl, keyOf Try.prog 34 (haV e.h) = some kl) (hw2 : ∃ kl, keyOf Try.prog 34 (haV e.new) = some kl) (hn : n ≤ 1000000) (hll : s.lives.length ≤ 1000000) (hk : e.k = 3) (ho : e.op = 2) (hy : e.y = true) (k : Nat) (x : Life) (ha : s.at_ e.h = some k) (hx : s.lives[k]? = some x) (ht : ¬ x.til > i) :
  Calls Try.prog 84 #[.pointer (some ⟨b, 0, none⟩), .int .i64 (i : Int), .agg (evA e)] w (TurnPost B b (n + 1) (turnF s i e) vl vc vv m1 m2 w) := by
 have hu97 := Try.underlying97
 have hu54 := Try.underlying54
 have hu34 := Try.underlying34
 have hu99 := Try.underlying99
 have HF1 := Aside0.mk (show turn1 s i e = s from turn1_keep ha hx ht)
 have HF := Aside0.mk (show turnF s i e = s by unfold turnF; rw [HF1.out]; exact turn2_no (by omega))
 have qk4 : (e.k == 4) = false := beq_eq_false_iff_ne.2 (by omega)
 have rk4 : (e.k != 4) = true := bne_iff_ne.2 (by omega)
 have qk3 : (e.k == 3) = true := beq_iff_eq.2 (by omega)
 have rk3 : (e.k != 3) = false := bne_eq_false_iff_eq.2 (by omega)
 have qop2 : (e.op == 2) = true := beq_iff_eq.2 (by omega)
 have rop2 : (e.op != 2) = false := bne_eq_false_iff_eq.2 (by omega)
 have qop3 : (e.op == 3) = false := beq_eq_false_iff_ne.2 (by omega)
 have rop3 : (e.op != 3) = true := bne_iff_ne.2 (by omega)
 have qop1 : (e.op == 1) = false := beq_eq_false_iff_ne.2 (by omega)
 have rop1 : (e.op != 1) = true := bne_iff_ne.2 (by omega)
 have hl0 := fun q => (Mid.start hB e).look hw ((w.alloc (.cells (evA e) 54)).drewN q) rfl
 rw [show (e.hn, e.hg) = e.h from rfl, ha] at hl0
 simp only [Option.map_some, Option.getD_some, Option.isSome_some] at hl0
 obtain ⟨g, cp, rfl, hcp, hgl, hcell⟩ := hB.rv.at_ (fun _ => rfl) hx
 have hkl : k < s.lives.length := (List.getElem?_eq_some_iff.1 hx).1
 have p0 := eq_true (show (0 : Int) ≤ (k : Int) by omega)
 have p1 := eq_true (show (k : Int) < (s.lives.length : Int) by omega)
 have c4 := (below_alloc (Below.refl w.heap.size w) (.cells (evA e) 54)).cell (p := ⟨g, k * 6 + 4, none⟩) hgl |>.trans (hcell 4 (by decide))
 have gt : decide (x.til > (i : Int)) = false := decide_eq_false ht
 clear hcell hkl hx
 have HB := Aside0.mk hB
 have hlt := hB.lt
 have hc := fun i => hB.cell i
 have HW2 := Aside0.mk hw2
 have HN := Aside0.mk hn
 have HLL := Aside0.mk hll
 clear hB hw hw2 hn hll hk ho ha ht
 go_enter Try.func84, Try.ntmps84
 go_wp2
 go_quiet (fail)
 go_wp2
 all_goals
  go_end0
  exact ⟨rfl, _, by rw [HF.out]; exact ((Mid.start HB.out e).drewN _).st.up (by omega), ((Mid.start HB.out e).drewN _).fr⟩
theorem turn_cancel_no {B b n m1 m2 : Nat} {s : Story} {vl vv vc : Value} (i : Nat) (e : Ev) (w : World) (hB : StIs w B b n s vl vv vc m1 m2) (hw : ∃ kl, keyOf Try.prog 34 (haV e.h) = some kl) (hw2 : ∃ kl, keyOf Try.prog 34 (haV e.new) = some kl) (hn : n ≤ 1000000) (hll : s.lives.length ≤ 1000000) (hk : e.k = 3) (ho : e.op = 2) (hy : e.y = false) :
  Calls Try.prog 84 #[.pointer (some ⟨b, 0, none⟩), .int .i64 (i : Int), .agg (evA e)] w (TurnPost B b (n + 1) (turnF s i e) vl vc vv m1 m2 w) := by
 have hu97 := Try.underlying97
 have hu54 := Try.underlying54
 have hu34 := Try.underlying34
 have hu99 := Try.underlying99
 have HF1 := Aside0.mk (show turn1 s i e = s from turn1_no (by rintro (q | q | q); omega; (rw [hy] at q; exact absurd q.2 (by decide)); omega))
 have HF := Aside0.mk (show turnF s i e = s by unfold turnF; rw [HF1.out]; exact turn2_no (by omega))
 have qk4 : (e.k == 4) = false := beq_eq_false_iff_ne.2 (by omega)
 have rk4 : (e.k != 4) = true := bne_iff_ne.2 (by omega)
 have qk3 : (e.k == 3) = true := beq_iff_eq.2 (by omega)
 have rk3 : (e.k != 3) = false := bne_eq_false_iff_eq.2 (by omega)
 have qop2 : (e.op == 2) = true := beq_iff_eq.2 (by omega)
 have rop2 : (e.op != 2) = false := bne_eq_false_iff_eq.2 (by omega)
 have qop3 : (e.op == 3) = false := beq_eq_false_iff_ne.2 (by omega)
 have rop3 : (e.op != 3) = true := bne_iff_ne.2 (by omega)
 have qop1 : (e.op == 1) = false := beq_eq_false_iff_ne.2 (by omega)
 have rop1 : (e.op != 1) = true := bne_iff_ne.2 (by omega)
 have hl0 := fun q => (Mid.start hB e).look hw ((w.alloc (.cells (evA e) 54)).drewN q) rfl
 obtain ⟨z0, hz0⟩ : ∃ z0, ((s.at_ (e.hn, e.hg)).map (fun j => (j : Int))).getD 0 = z0 := ⟨_, rfl⟩
 obtain ⟨z1, hz1⟩ : ∃ z1, (s.at_ (e.hn, e.hg)).isSome = z1 := ⟨_, rfl⟩
 rw [hz0, hz1] at hl0
 clear hz0 hz1
 have HB := Aside0.mk hB
 have hlt := hB.lt
 have hc := fun i => hB.cell i
 have HW2 := Aside0.mk hw2
 have HN := Aside0.mk hn
 have HLL := Aside0.mk hll
 clear hB hw hw2 hn hll hk ho
 go_enter Try.func84, Try.ntmps84
 go_wp2
 go_quiet (fail)
 go_wp2
 all_goals
  go_end0
  exact ⟨rfl, _, by rw [HF.out]; exact ((Mid.start HB.out e).drewN _).st.up (by omega), ((Mid.start HB.out e).drewN _).fr⟩
theorem turn_rearm_none_old {B b n m1 m2 : Nat} {s : Story} {vl vv vc : Value} (i : Nat) (e : Ev) (w : World) (hB : StIs w B b n s vl vv vc m1 m2) (hw : ∃ kl, keyOf Try.prog 34 (haV e.h) = some kl) (hw2 : ∃ kl, keyOf Try.prog 34 (haV e.new) = some kl) (hn : n ≤ 1000000) (hll : s.lives.length ≤ 1000000) (hk : e.k = 3) (ho : e.op = 3) (he : e.er = 0) (ha : s.at_ e.h = none) (j : Nat) (hj : s.at_ e.new = some j) :
  Calls Try.prog 84 #[.pointer (some ⟨b, 0, none⟩), .int .i64 (i : Int), .agg (evA e)] w (TurnPost B b (n + 1) (turnF s i e) vl vc vv m1 m2 w) := by
 obtain ⟨A9, c9, rfl, hc9⟩ := hB.rv.form
 clear hc9
 have hu97 := Try.underlying97
 have hu54 := Try.underlying54
 have hu34 := Try.underlying34
 have hu99 := Try.underlying99
 have HF1 := Aside0.mk (show turn1 s i e = s from turn1_none ha)
 have HF := Aside0.mk (show turnF s i e = s by unfold turnF; rw [HF1.out]; exact turn2_old hj)
 have qk4 : (e.k == 4) = false := beq_eq_false_iff_ne.2 (by omega)
 have rk4 : (e.k != 4) = true := bne_iff_ne.2 (by omega)
 have qk3 : (e.k == 3) = true := beq_iff_eq.2 (by omega)
 have rk3 : (e.k != 3) = false := bne_eq_false_iff_eq.2 (by omega)
 have qop2 : (e.op == 2) = false := beq_eq_false_iff_ne.2 (by omega)
 have rop2 : (e.op != 2) = true := bne_iff_ne.2 (by omega)
 have qop3 : (e.op == 3) = true := beq_iff_eq.2 (by omega)
 have rop3 : (e.op != 3) = false := bne_eq_false_iff_eq.2 (by omega)
 have qop1 : (e.op == 1) = false := beq_eq_false_iff_ne.2 (by omega)
 have rop1 : (e.op != 1) = true := bne_iff_ne.2 (by omega)
 have qer0 : (e.er == 0) = true := beq_iff_eq.2 (by omega)
 have rer0 : (e.er != 0) = false := bne_eq_false_iff_eq.2 (by omega)
 have hl0 := fun q => (Mid.start hB e).look hw ((w.alloc (.cells (evA e) 54)).drewN q) rfl
 rw [show (e.hn, e.hg) = e.h from rfl, ha] at hl0
 simp only [Option.map_none, Option.getD_none, Option.isSome_none] at hl0
 have HB := Aside0.mk hB
 have hlt := hB.lt
 have hc := fun i => hB.cell i
 have HW2 := Aside0.mk hw2
 have HN := Aside0.mk hn
 have HLL := Aside0.mk hll
 have HJ := Aside0.mk hj
 clear hB hw hw2 hn hll hk ho he ha hj
 go_enter Try.func84, Try.ntmps84
 go_wp2
 go_quiet (fail)
 go_upto_region 5 with (fail)
 refine gen_world (fun W => Mid w W B b n m1 m2 (.slice A9 s.lives.length c9) s vl (.slice A9 s.lives.length c9) vc e) (by exact (Mid.start HB.out e).drewN _) fun W hM => ?_
 clear hlt hc hl0
 have hlt := hM.st.lt
 have hc := fun i => hM.st.cell i
 have hel := blk_lt hM.ev
 have hce := fun i => blk_cell hM.ev i
 have HM := Aside0.mk hM
 have hl1 := fun q => hM.look HW2.out (W.drewN q) rfl
 simp only [show (e.nn, e.ng) = e.new from rfl, HJ.out] at hl1
 clear hM
 simp only [Option.map_some, Option.getD_some, Option.isSome_some] at hl1
 go_wp2
 go_quiet (fail)
 go_wp2
 go_end0
 exact ⟨rfl, _, by rw [HF.out]; exact (HM.out.drewN _).st.up (by omega), (HM.out.drewN _).fr⟩
theorem turn_rearm_none_new {B b n m1 m2 : Nat} {s : Story} {vl vv vc : Value} (i : Nat) (e : Ev) (w : World) (hB : StIs w B b n s vl vv vc m1 m2) (hw : ∃ kl, keyOf Try.prog 34 (haV e.h) = some kl) (hw2 : ∃ kl, keyOf Try.prog 34 (haV e.new) = some kl) (hn : n ≤ 1000000) (hll : s.lives.length ≤ 1000000) (hk : e.k = 3) (ho : e.op = 3) (he : e.er = 0) (ha : s.at_ e.h = none) (hj : s.at_ e.new = none) :
  Calls Try.prog 84 #[.pointer (some ⟨b, 0, none⟩), .int .i64 (i : Int), .agg (evA e)] w (TurnPost B b (n + 1) (turnF s i e) vl vc vv m1 m2 w) := by
 obtain ⟨A9, c9, rfl, hc9⟩ := hB.rv.form
 clear hc9
 have hu97 := Try.underlying97
 have hu54 := Try.underlying54
 have hu34 := Try.underlying34
 have hu99 := Try.underlying99
 have HF1 := Aside0.mk (show turn1 s i e = s from turn1_none ha)
 have HF := Aside0.mk (show turnF s i e = { (s : Story) with at_ := updH s.at_ e.new s.lives.length, lives := (s : Story).lives ++ [⟨e.nn, e.ng, i, e.wk, noEnd, e.t⟩] } by unfold turnF; rw [HF1.out, turn2_new (s := s) (by omega) hj])
 have qk4 : (e.k == 4) = false := beq_eq_false_iff_ne.2 (by omega)
 have rk4 : (e.k != 4) = true := bne_iff_ne.2 (by omega)
 have qk3 : (e.k == 3) = true := beq_iff_eq.2 (by omega)
 have rk3 : (e.k != 3) = false := bne_eq_false_iff_eq.2 (by omega)
 have qop2 : (e.op == 2) = false := beq_eq_false_iff_ne.2 (by omega)
 have rop2 : (e.op != 2) = true := bne_iff_ne.2 (by omega)
 have qop3 : (e.op == 3) = true := beq_iff_eq.2 (by omega)
 have rop3 : (e.op != 3) = false := bne_eq_false_iff_eq.2 (by omega)
 have qop1 : (e.op == 1) = false := beq_eq_false_iff_ne.2 (by omega)
 have rop1 : (e.op != 1) = true := bne_iff_ne.2 (by omega)
 have qer0 : (e.er == 0) = true := beq_iff_eq.2 (by omega)
 have rer0 : (e.er != 0) = false := bne_eq_false_iff_eq.2 (by omega)
 have hl0 := fun q => (Mid.start hB e).look hw ((w.alloc (.cells (evA e) 54)).drewN q) rfl
 rw [show (e.hn, e.hg) = e.h from rfl, ha] at hl0
 simp only [Option.map_none, Option.getD_none, Option.isSome_none] at hl0
 have HB := Aside0.mk hB
 have hlt := hB.lt
 have hc := fun i => hB.cell i
 have HW2 := Aside0.mk hw2
 have HN := Aside0.mk hn
 have HLL := Aside0.mk hll
 have HJ := Aside0.mk hj
 clear hB hw hw2 hn hll hk ho he ha hj
 go_enter Try.func84, Try.ntmps84
 go_wp2
 go_quiet (fail)
 go_upto_region 5 with (fail)
 refine gen_world (fun W => Mid w W B b n m1 m2 (.slice A9 s.lives.length c9) s vl (.slice A9 s.lives.length c9) vc e) (by exact (Mid.start HB.out e).drewN _) fun W hM => ?_
 clear hlt hc hl0
 have hlt := hM.st.lt
 have hc := fun i => hM.st.cell i
 have hel := blk_lt hM.ev
 have hce := fun i => blk_cell hM.ev i
 have HM := Aside0.mk hM
 have hl1 := fun q => hM.look HW2.out (W.drewN q) rfl
 simp only [show (e.nn, e.ng) = e.new from rfl, HJ.out] at hl1
 clear hM
 simp only [Option.map_none, Option.getD_none, Option.isSome_none] at hl1
 go_wp2
 go_quiet (fail)
 go_wp2
 refine gen_world (fun W2 => Mid w W2 B b n m1 m2 (.slice A9 s.lives.length c9) s vl (.slice A9 s.lives.length c9) vc e) (by exact HM.out.drewN _) fun W2 hM2 => ?_
 clear hlt hc hel hce hl1
 refine still_tail_at 11 (by kernel_rfl) (by kernel_rfl) fun w2 hw2 => ?_
 have HM3 := Aside0.mk (show Mid w w2 B b n m1 m2 (.slice A9 s.lives.length c9) s vl (.slice A9 s.lives.length c9) vc e by rw [hw2]; exact hM2.drew)
 clear hw2 hM2 HM
 have hlt := HM3.out.st.lt
 have hc := fun i => HM3.out.st.cell i
 have hel := blk_lt HM3.out.ev
 have hce := fun i => blk_cell HM3.out.ev i
 simp only [List.take_succ_cons, List.take_zero, List.drop_succ_cons, List.drop_zero]
 repeat still_step
 refine wpStill_nil ?_
 obtain ⟨z1, hz1, hm1⟩ := HM3.out.st.ma
 obtain ⟨kl2, hkl2⟩ := HW2.out
 refine wpl_store ha_inj rfl _ _ _ 86 rfl hm1 lawH Try.underlying86 (by unfold maxLen; have := HN.out; omega) (y := e.new) hkl2 (val := .int .i64 (s.lives.length : Int)) rfl rfl rfl ?_
 intro w4 hm4 hg4
 rw [nV_upd] at hm4
 have HM4 := Aside0.mk (HM3.out.stored hm4 (by split <;> omega) hg4)
 clear hlt hc hel hce hm4 hg4 hm1 hz1 HM3 hkl2
 go_wp2
 have HSL : (s : Story).lives.length ≤ 1000000 := by first | exact HLL.out | (simp only [List.length_set]; exact HLL.out)
 have hlt := HM4.out.st.lt
 have hel := blk_lt HM4.out.ev
 have hll := HLL.out
 refine start_ (n := 18) (S := (fun w' => (∀ i, w'.cell? ⟨b, i, none⟩ = (stA vl (.slice A9 s.lives.length c9) vc m1 m2)[i]?) ∧ (∀ i, w'.cell? ⟨w.heap.size, i, none⟩ = (evA e)[i]?) ∧ (∀ i, w'.frozen? ⟨b, i, none⟩ = false))) (ds := [17]) #[ff,ff,ff,ff,ff,ff,ff,ff,ff,ff,ff,ff,ff,ff,ff,ff,ff,ff] (by kernel_rfl) rfl rfl HM4.out.drew.cells (fun hHeld => ?_)
 refine with_tabW turn.tab9 turn.bits9 (fun HT_ HW_ => ?_)
 have HM5 := Aside0.mk HM4.out.drew
 generalize w4.drew = w5 at HM5 hHeld ⊢
 clear hlt hel
 have hlt := HM5.out.st.lt
 refine pure_ (i := 0) (N := (some 108)) (v := ?_) (a' := ?_) #[tt,ff,ff,ff,ff,ff,ff,ff,ff,ff,ff,ff,ff,ff,ff,ff,ff,ff] rfl rfl (any_of HT_.out (by kernel_rfl)) (fun _ _ _ h => h) (Or.inl ⟨by rfl, ?_⟩) ?_ ?_
 rotate_left
 ·intro w'
  go_simp
  with_reducible rfl
 rotate_left
 ·simp only [Act.put, sQ0, sQ1, sQ2, i64_w]
  rfl
 refine pure_ (i := 1) (N := (some 109)) (v := ?_) (a' := ?_) #[tt,tt,ff,ff,ff,ff,ff,ff,ff,ff,ff,ff,ff,ff,ff,ff,ff,ff] rfl rfl (any_of HT_.out (by kernel_rfl)) (fun _ _ _ h => h) (Or.inl ⟨by rfl, ?_⟩) ?_ ?_
 rotate_left
 ·intro w'
  go_simp
  with_reducible rfl
 rotate_left
 ·simp only [Act.put, sQ0, sQ1, sQ2, i64_w]
  rfl
 refine pure_ (i := 2) (N := (some 110)) (v := ?_) (a' := ?_) #[tt,tt,tt,ff,ff,ff,ff,ff,ff,ff,ff,ff,ff,ff,ff,ff,ff,ff] rfl rfl (any_of HT_.out (by kernel_rfl)) (fun _ _ _ h => h) (Or.inl ⟨by rfl, ?_⟩) ?_ ?_
 rotate_left
 ·intro w'
  go_simp
  with_reducible rfl
 rotate_left
 ·simp only [Act.put, sQ0, sQ1, sQ2, i64_w]
  rfl
 refine pure_ (i := 3) (N := (some 111)) (v := ?_) (a' := ?_) #[tt,tt,tt,tt,ff,ff,ff,ff,ff,ff,ff,ff,ff,ff,ff,ff,ff,ff] rfl rfl (any_of HT_.out (by kernel_rfl)) (fun _ _ _ h => h) (Or.inl ⟨by rfl, ?_⟩) ?_ ?_
 rotate_left
 ·intro w'
  go_simp
  with_reducible rfl
 rotate_left
 ·simp only [Act.put, sQ0, sQ1, sQ2, i64_w]
  rfl
 refine pure_ (i := 5) (N := (some 113)) (v := ?_) (a' := ?_) #[tt,tt,tt,tt,ff,tt,ff,ff,ff,ff,ff,ff,ff,ff,ff,ff,ff,ff] rfl rfl (any_of HT_.out (by kernel_rfl)) (fun _ _ _ h => h) (Or.inl ⟨by rfl, ?_⟩) ?_ ?_
 rotate_left
 ·intro w'
  go_simp
  with_reducible rfl
 rotate_left
 ·simp only [Act.put, sQ0, sQ1, sQ2, i64_w]
  rfl
 refine pure_ (i := 7) (N := (some 115)) (v := ?_) (a' := ?_) #[tt,tt,tt,tt,ff,tt,ff,tt,ff,ff,ff,ff,ff,ff,ff,ff,ff,ff] rfl rfl (any_of HT_.out (by kernel_rfl)) (fun _ _ _ h => h) (Or.inl ⟨by rfl, ?_⟩) ?_ ?_
 rotate_left
 ·intro w'
  go_simp
  with_reducible rfl
 rotate_left
 ·simp only [Act.put, sQ0, sQ1, sQ2, i64_w]
  rfl
 refine pure_ (i := 8) (N := (some 116)) (v := ?_) (a' := ?_) #[tt,tt,tt,tt,ff,tt,ff,tt,tt,ff,ff,ff,ff,ff,ff,ff,ff,ff] rfl rfl (any_of HT_.out (by kernel_rfl)) (fun _ _ _ h => h) (Or.inl ⟨by rfl, ?_⟩) ?_ ?_
 rotate_left
 ·intro w'
  go_simp
  with_reducible rfl
 rotate_left
 ·simp only [Act.put, sQ0, sQ1, sQ2, i64_w]
  rfl
 refine pure_ (i := 10) (N := (some 118)) (v := ?_) (a' := ?_) #[tt,tt,tt,tt,ff,tt,ff,tt,tt,ff,tt,ff,ff,ff,ff,ff,ff,ff] rfl rfl (any_of HT_.out (by kernel_rfl)) (fun _ _ _ h => h) (Or.inl ⟨by rfl, ?_⟩) ?_ ?_
 rotate_left
 ·intro w'
  go_simp
  with_reducible rfl
 rotate_left
 ·simp only [Act.put, sQ0, sQ1, sQ2, i64_w]
  rfl
 refine take_ (i := 4) (N := (some 112)) (v := ?_) (a' := ?_) #[tt,tt,tt,tt,tt,tt,ff,tt,tt,ff,tt,ff,ff,ff,ff,ff,ff,ff] rfl rfl (take_ofW HT_.out HW_.out (by kernel_rfl)) (fun _ _ _ h => h) (Or.inl ⟨by rfl, ?_⟩) hHeld ?_ ?_
 rotate_left
 ·rintro w' ⟨s0, s1, s2⟩
  go_simp
  with_reducible rfl
 rotate_left
 ·simp only [Act.put, sQ0, sQ1, sQ2, i64_w]
  rfl
 refine take_ (i := 6) (N := (some 114)) (v := ?_) (a' := ?_) #[tt,tt,tt,tt,tt,tt,tt,tt,tt,ff,tt,ff,ff,ff,ff,ff,ff,ff] rfl rfl (take_ofW HT_.out HW_.out (by kernel_rfl)) (fun _ _ _ h => h) (Or.inl ⟨by rfl, ?_⟩) hHeld ?_ ?_
 rotate_left
 ·rintro w' ⟨s0, s1, s2⟩
  go_simp
  with_reducible rfl
 rotate_left
 ·simp only [Act.put, sQ0, sQ1, sQ2, i64_w]
  rfl
 refine take_ (i := 9) (N := (some 117)) (v := ?_) (a' := ?_) #[tt,tt,tt,tt,tt,tt,tt,tt,tt,tt,tt,ff,ff,ff,ff,ff,ff,ff] rfl rfl (take_ofW HT_.out HW_.out (by kernel_rfl)) (fun _ _ _ h => h) (Or.inl ⟨by rfl, ?_⟩) hHeld ?_ ?_
 rotate_left
 ·rintro w' ⟨s0, s1, s2⟩
  go_simp
  with_reducible rfl
 rotate_left
 ·simp only [Act.put, sQ0, sQ1, sQ2, i64_w]
  rfl
 refine take_ (i := 11) (N := (some 119)) (v := ?_) (a' := ?_) #[tt,tt,tt,tt,tt,tt,tt,tt,tt,tt,tt,tt,ff,ff,ff,ff,ff,ff] rfl rfl (take_ofW HT_.out HW_.out (by kernel_rfl)) (fun _ _ _ h => h) (Or.inl ⟨by rfl, ?_⟩) hHeld ?_ ?_
 rotate_left
 ·rintro w' ⟨s0, s1, s2⟩
  go_simp
  with_reducible rfl
 rotate_left
 ·simp only [Act.put, sQ0, sQ1, sQ2, i64_w]
  rfl
 refine pure_ (i := 12) (N := (some 120)) (v := ?_) (a' := ?_) #[tt,tt,tt,tt,tt,tt,tt,tt,tt,tt,tt,tt,tt,ff,ff,ff,ff,ff] rfl rfl (any_of HT_.out (by kernel_rfl)) (fun _ _ _ h => h) (Or.inl ⟨by rfl, ?_⟩) ?_ ?_
 rotate_left
 ·intro w'
  go_simp
  with_reducible rfl
 rotate_left
 ·simp only [Act.put, sQ0, sQ1, sQ2, i64_w]
  rfl
 refine one_ (i := 13) (N := (some 121)) #[tt,tt,tt,tt,tt,tt,tt,tt,tt,tt,tt,tt,tt,tt,ff,ff,ff,ff] rfl rfl (one_of HT_.out (by kernel_rfl)) (by decide) (fun K hK => ?_)
 refine value_ (by rfl) rfl (v := .slice (some ⟨w5.heap.size, 0, none⟩) 1 1) (w1 := w5.alloc (.cells (lfA ⟨e.nn, e.ng, i, e.wk, noEnd, e.t⟩) 99)) (by go_simp; rfl) ?_
 refine hK.out _ _ (HM5.out.alloc _).cells (fun hHeld => ?_)
 clear hK K
 refine norm_ (a' := ?_) ?_ ?_
 rotate_left
 ·show Act.put _ (some 121) _ = _
  simp only [Act.put, sQ0, sQ1, sQ2, i64_w]
  rfl
 refine one_ (i := 14) (N := (some 122)) #[tt,tt,tt,tt,tt,tt,tt,tt,tt,tt,tt,tt,tt,tt,tt,ff,ff,ff] rfl rfl (one_of HT_.out (by kernel_rfl)) (by decide) (fun K hK => ?_)
 refine step_lives (by rfl) _ _ (by rfl) HM5.out ⟨e.nn, e.ng, i, e.wk, noEnd, e.t⟩ (by rfl) (by rfl) HSL ?_
 intro gg cap6 w6 hp
 have HP := Aside0.mk hp
 clear hp
 refine hK.out _ _ HP.out.1 (fun hHeld => ?_)
 clear hK K
 refine norm_ (a' := ?_) ?_ ?_
 rotate_left
 ·show Act.put _ (some 122) _ = _
  simp only [Act.put, sQ0, sQ1, sQ2, i64_w]
  rfl
 refine pure_ (i := 15) (N := (some 123)) (v := ?_) (a' := ?_) #[tt,tt,tt,tt,tt,tt,tt,tt,tt,tt,tt,tt,tt,tt,tt,tt,ff,ff] rfl rfl (any_of HT_.out (by kernel_rfl)) (fun _ _ _ h => h) (Or.inl ⟨by rfl, ?_⟩) ?_ ?_
 rotate_left
 ·intro w'
  go_simp
  with_reducible rfl
 rotate_left
 ·simp only [Act.put, sQ0, sQ1, sQ2, i64_w]
  rfl
 refine pure_ (i := 16) (N := (some 124)) (v := ?_) (a' := ?_) #[tt,tt,tt,tt,tt,tt,tt,tt,tt,tt,tt,tt,tt,tt,tt,tt,tt,ff] rfl rfl (any_of HT_.out (by kernel_rfl)) (fun _ _ _ h => h) (Or.inl ⟨by rfl, ?_⟩) ?_ ?_
 rotate_left
 ·intro w'
  go_simp
  with_reducible rfl
 rotate_left
 ·simp only [Act.put, sQ0, sQ1, sQ2, i64_w]
  rfl
 refine last_ (i := 17) (N := none) #[tt,tt,tt,tt,tt,tt,tt,tt,tt,tt,tt,tt,tt,tt,tt,tt,tt,tt] rfl rfl (one_of HT_.out (by kernel_rfl)) (by decide) (fun K hK => ?_)
 refine skip_ (by rfl) rfl (w1 := w6.setCell ⟨b, 1, none⟩ (.slice (some ⟨gg, 0, none⟩) (s.lives.length + 1) cap6)) (by have q1 := hHeld.1 1; have q2 := hHeld.2.2 1; go_simp) ?_
 refine hK.out _ _ ?_
 clear hK K
 refine done_ (done_of HT_.out (by kernel_rfl)) ?_
 go_wp2
 go_end0
 have hP := HP.out.2
 try simp only [List.length_set] at hP
 exact ⟨rfl, _, by rw [HF.out]; exact hP.st, hP.fr⟩
theorem turn_rearm_set_old {B b n m1 m2 : Nat} {s : Story} {vl vv vc : Value} (i : Nat) (e : Ev) (w : World) (hB : StIs w B b n s vl vv vc m1 m2) (hw : ∃ kl, keyOf Try.prog 34 (haV e.h) = some kl) (hw2 : ∃ kl, keyOf Try.prog 34 (haV e.new) = some kl) (hn : n ≤ 1000000) (hll : s.lives.length ≤ 1000000) (hk : e.k = 3) (ho : e.op = 3) (he : e.er = 0) (k : Nat) (x : Life) (ha : s.at_ e.h = some k) (hx : s.lives[k]? = some x) (ht : x.til > i) (j : Nat) (hj : s.at_ e.new = some j) :
  Calls Try.prog 84 #[.pointer (some ⟨b, 0, none⟩), .int .i64 (i : Int), .agg (evA e)] w (TurnPost B b (n + 1) (turnF s i e) vl vc vv m1 m2 w) := by
 have hu97 := Try.underlying97
 have hu54 := Try.underlying54
 have hu34 := Try.underlying34
 have hu99 := Try.underlying99
 have HF1 := Aside0.mk (show turn1 s i e = { s with lives := s.lives.set k { x with til := (i : Int) } } from turn1_set ha hx (.inr (.inr ⟨ho, he⟩)) ht)
 have HF := Aside0.mk (show turnF s i e = { s with lives := s.lives.set k { x with til := (i : Int) } } by unfold turnF; rw [HF1.out]; exact turn2_old hj)
 have qk4 : (e.k == 4) = false := beq_eq_false_iff_ne.2 (by omega)
 have rk4 : (e.k != 4) = true := bne_iff_ne.2 (by omega)
 have qk3 : (e.k == 3) = true := beq_iff_eq.2 (by omega)
 have rk3 : (e.k != 3) = false := bne_eq_false_iff_eq.2 (by omega)
 have qop2 : (e.op == 2) = false := beq_eq_false_iff_ne.2 (by omega)
 have rop2 : (e.op != 2) = true := bne_iff_ne.2 (by omega)
 have qop3 : (e.op == 3) = true := beq_iff_eq.2 (by omega)
 have rop3 : (e.op != 3) = false := bne_eq_false_iff_eq.2 (by omega)
 have qop1 : (e.op == 1) = false := beq_eq_false_iff_ne.2 (by omega)
 have rop1 : (e.op != 1) = true := bne_iff_ne.2 (by omega)
 have qer0 : (e.er == 0) = true := beq_iff_eq.2 (by omega)
 have rer0 : (e.er != 0) = false := bne_eq_false_iff_eq.2 (by omega)
 have hl0 := fun q => (Mid.start hB e).look hw ((w.alloc (.cells (evA e) 54)).drewN q) rfl
 rw [show (e.hn, e.hg) = e.h from rfl, ha] at hl0
 simp only [Option.map_some, Option.getD_some, Option.isSome_some] at hl0
 obtain ⟨g, cp, rfl, hcp, hgl, hcell⟩ := hB.rv.at_ (fun _ => rfl) hx
 have hkl : k < s.lives.length := (List.getElem?_eq_some_iff.1 hx).1
 have p0 := eq_true (show (0 : Int) ≤ (k : Int) by omega)
 have p1 := eq_true (show (k : Int) < (s.lives.length : Int) by omega)
 have c4 := (below_alloc (Below.refl w.heap.size w) (.cells (evA e) 54)).cell (p := ⟨g, k * 6 + 4, none⟩) hgl |>.trans (hcell 4 (by decide))
 have gt : decide (x.til > (i : Int)) = true := decide_eq_true ht
 obtain ⟨cur, hcur⟩ := hB.rv.own (show (Value.slice (some ⟨g, 0, none⟩) s.lives.length cp).ownBlock = some g from rfl)
 have fz := blk_frozen (blk_alloc hcur (.cells (evA e) 54)) (k * 6 + 4)
 have HX := Aside0.mk hx
 clear hcur hx
 clear hcell hkl
 have HB := Aside0.mk hB
 have hlt := hB.lt
 have hc := fun i => hB.cell i
 have HW2 := Aside0.mk hw2
 have HN := Aside0.mk hn
 have HLL := Aside0.mk hll
 have HJ := Aside0.mk hj
 clear hB hw hw2 hn hll hk ho he ha ht hj
 go_enter Try.func84, Try.ntmps84
 go_wp2
 go_quiet (fail)
 go_upto_region 5 with (fail)
 refine gen_world (fun W => Mid w W B b n m1 m2 (.slice (some ⟨g, 0, none⟩) s.lives.length cp) { s with lives := s.lives.set k { x with til := (i : Int) } } vl (.slice (some ⟨g, 0, none⟩) s.lives.length cp) vc e) (by exact ((Mid.start HB.out e).drewN _).put (i : Int) HX.out) fun W hM => ?_
 clear hlt hc hl0 c4 hgl
 clear fz
 have hlt := hM.st.lt
 have hc := fun i => hM.st.cell i
 have hel := blk_lt hM.ev
 have hce := fun i => blk_cell hM.ev i
 have HM := Aside0.mk hM
 have hl1 := fun q => hM.look HW2.out (W.drewN q) rfl
 simp only [show (e.nn, e.ng) = e.new from rfl, HJ.out] at hl1
 clear hM
 simp only [Option.map_some, Option.getD_some, Option.isSome_some] at hl1
 go_wp2
 go_quiet (fail)
 go_wp2
 go_end0
 exact ⟨rfl, _, by rw [HF.out]; exact (HM.out.drewN _).st.up (by omega), (HM.out.drewN _).fr⟩
theorem turn_rearm_set_new {B b n m1 m2 : Nat} {s : Story} {vl vv vc : Value} (i : Nat) (e : Ev) (w : World) (hB : StIs w B b n s vl vv vc m1 m2) (hw : ∃ kl, keyOf Try.prog 34 (haV e.h) = some kl) (hw2 : ∃ kl, keyOf Try.prog 34 (haV e.new) = some kl) (hn : n ≤ 1000000) (hll : s.lives.length ≤ 1000000) (hk : e.k = 3) (ho : e.op = 3) (he : e.er = 0) (k : Nat) (x : Life) (ha : s.at_ e.h = some k) (hx : s.lives[k]? = some x) (ht : x.til > i) (hj : s.at_ e.new = none) :
  Calls Try.prog 84 #[.pointer (some ⟨b, 0, none⟩), .int .i64 (i : Int), .agg (evA e)] w (TurnPost B b (n + 1) (turnF s i e) vl vc vv m1 m2 w) := by
 have hu97 := Try.underlying97
 have hu54 := Try.underlying54
 have hu34 := Try.underlying34
 have hu99 := Try.underlying99
 have HF1 := Aside0.mk (show turn1 s i e = { s with lives := s.lives.set k { x with til := (i : Int) } } from turn1_set ha hx (.inr (.inr ⟨ho, he⟩)) ht)
 have HF := Aside0.mk (show turnF s i e = { ({ s with lives := s.lives.set k { x with til := (i : Int) } } : Story) with at_ := updH s.at_ e.new s.lives.length, lives := ({ s with lives := s.lives.set k { x with til := (i : Int) } } : Story).lives ++ [⟨e.nn, e.ng, i, e.wk, noEnd, e.t⟩] } by unfold turnF; rw [HF1.out, turn2_new (s := { s with lives := s.lives.set k { x with til := (i : Int) } }) (by omega) hj]; simp only [List.length_set])
 have qk4 : (e.k == 4) = false := beq_eq_false_iff_ne.2 (by omega)
 have rk4 : (e.k != 4) = true := bne_iff_ne.2 (by omega)
 have qk3 : (e.k == 3) = true := beq_iff_eq.2 (by omega)
 have rk3 : (e.k != 3) = false := bne_eq_false_iff_eq.2 (by omega)
 have qop2 : (e.op == 2) = false := beq_eq_false_iff_ne.2 (by omega)
 have rop2 : (e.op != 2) = true := bne_iff_ne.2 (by omega)
 have qop3 : (e.op == 3) = true := beq_iff_eq.2 (by omega)
 have rop3 : (e.op != 3) = false := bne_eq_false_iff_eq.2 (by omega)
 have qop1 : (e.op == 1) = false := beq_eq_false_iff_ne.2 (by omega)
 have rop1 : (e.op != 1) = true := bne_iff_ne.2 (by omega)
 have qer0 : (e.er == 0) = true := beq_iff_eq.2 (by omega)
 have rer0 : (e.er != 0) = false := bne_eq_false_iff_eq.2 (by omega)
 have hl0 := fun q => (Mid.start hB e).look hw ((w.alloc (.cells (evA e) 54)).drewN q) rfl
 rw [show (e.hn, e.hg) = e.h from rfl, ha] at hl0
 simp only [Option.map_some, Option.getD_some, Option.isSome_some] at hl0
 obtain ⟨g, cp, rfl, hcp, hgl, hcell⟩ := hB.rv.at_ (fun _ => rfl) hx
 have hkl : k < s.lives.length := (List.getElem?_eq_some_iff.1 hx).1
 have p0 := eq_true (show (0 : Int) ≤ (k : Int) by omega)
 have p1 := eq_true (show (k : Int) < (s.lives.length : Int) by omega)
 have c4 := (below_alloc (Below.refl w.heap.size w) (.cells (evA e) 54)).cell (p := ⟨g, k * 6 + 4, none⟩) hgl |>.trans (hcell 4 (by decide))
 have gt : decide (x.til > (i : Int)) = true := decide_eq_true ht
 obtain ⟨cur, hcur⟩ := hB.rv.own (show (Value.slice (some ⟨g, 0, none⟩) s.lives.length cp).ownBlock = some g from rfl)
 have fz := blk_frozen (blk_alloc hcur (.cells (evA e) 54)) (k * 6 + 4)
 have HX := Aside0.mk hx
 clear hcur hx
 clear hcell hkl
 have HB := Aside0.mk hB
 have hlt := hB.lt
 have hc := fun i => hB.cell i
 have HW2 := Aside0.mk hw2
 have HN := Aside0.mk hn
 have HLL := Aside0.mk hll
 have HJ := Aside0.mk hj
 clear hB hw hw2 hn hll hk ho he ha ht hj
 go_enter Try.func84, Try.ntmps84
 go_wp2
 go_quiet (fail)
 go_upto_region 5 with (fail)
 refine gen_world (fun W => Mid w W B b n m1 m2 (.slice (some ⟨g, 0, none⟩) s.lives.length cp) { s with lives := s.lives.set k { x with til := (i : Int) } } vl (.slice (some ⟨g, 0, none⟩) s.lives.length cp) vc e) (by exact ((Mid.start HB.out e).drewN _).put (i : Int) HX.out) fun W hM => ?_
 clear hlt hc hl0 c4 hgl
 clear fz
 have hlt := hM.st.lt
 have hc := fun i => hM.st.cell i
 have hel := blk_lt hM.ev
 have hce := fun i => blk_cell hM.ev i
 have HM := Aside0.mk hM
 have hl1 := fun q => hM.look HW2.out (W.drewN q) rfl
 simp only [show (e.nn, e.ng) = e.new from rfl, HJ.out] at hl1
 clear hM
 simp only [Option.map_none, Option.getD_none, Option.isSome_none] at hl1
 go_wp2
 go_quiet (fail)
 go_wp2
 refine gen_world (fun W2 => Mid w W2 B b n m1 m2 (.slice (some ⟨g, 0, none⟩) s.lives.length cp) { s with lives := s.lives.set k { x with til := (i : Int) } } vl (.slice (some ⟨g, 0, none⟩) s.lives.length cp) vc e) (by exact HM.out.drewN _) fun W2 hM2 => ?_
 clear hlt hc hel hce hl1
 refine still_tail_at 11 (by kernel_rfl) (by kernel_rfl) fun w2 hw2 => ?_
 have HM3 := Aside0.mk (show Mid w w2 B b n m1 m2 (.slice (some ⟨g, 0, none⟩) s.lives.length cp) { s with lives := s.lives.set k { x with til := (i : Int) } } vl (.slice (some ⟨g, 0, none⟩) s.lives.length cp) vc e by rw [hw2]; exact hM2.drew)
 clear hw2 hM2 HM
 have hlt := HM3.out.st.lt
 have hc := fun i => HM3.out.st.cell i
 have hel := blk_lt HM3.out.ev
 have hce := fun i => blk_cell HM3.out.ev i
 simp only [List.take_succ_cons, List.take_zero, List.drop_succ_cons, List.drop_zero]
 repeat still_step
 refine wpStill_nil ?_
 obtain ⟨z1, hz1, hm1⟩ := HM3.out.st.ma
 obtain ⟨kl2, hkl2⟩ := HW2.out
 refine wpl_store ha_inj rfl _ _ _ 86 rfl hm1 lawH Try.underlying86 (by unfold maxLen; have := HN.out; omega) (y := e.new) hkl2 (val := .int .i64 (s.lives.length : Int)) rfl rfl rfl ?_
 intro w4 hm4 hg4
 rw [nV_upd] at hm4
 have HM4 := Aside0.mk (HM3.out.stored hm4 (by split <;> omega) hg4)
 clear hlt hc hel hce hm4 hg4 hm1 hz1 HM3 hkl2
 go_wp2
 have HSL : ({ s with lives := s.lives.set k { x with til := (i : Int) } } : Story).lives.length ≤ 1000000 := by first | exact HLL.out | (simp only [List.length_set]; exact HLL.out)
 have hlt := HM4.out.st.lt
 have hel := blk_lt HM4.out.ev
 have hll := HLL.out
 refine start_ (n := 18) (S := (fun w' => (∀ i, w'.cell? ⟨b, i, none⟩ = (stA vl (.slice (some ⟨g, 0, none⟩) s.lives.length cp) vc m1 m2)[i]?) ∧ (∀ i, w'.cell? ⟨w.heap.size, i, none⟩ = (evA e)[i]?) ∧ (∀ i, w'.frozen? ⟨b, i, none⟩ = false))) (ds := [17]) #[ff,ff,ff,ff,ff,ff,ff,ff,ff,ff,ff,ff,ff,ff,ff,ff,ff,ff] (by kernel_rfl) rfl rfl HM4.out.drew.cells (fun hHeld => ?_)
 refine with_tabW turn.tab9 turn.bits9 (fun HT_ HW_ => ?_)
 have HM5 := Aside0.mk HM4.out.drew
 generalize w4.drew = w5 at HM5 hHeld ⊢
 clear hlt hel
 have hlt := HM5.out.st.lt
 refine pure_ (i := 0) (N := (some 108)) (v := ?_) (a' := ?_) #[tt,ff,ff,ff,ff,ff,ff,ff,ff,ff,ff,ff,ff,ff,ff,ff,ff,ff] rfl rfl (any_of HT_.out (by kernel_rfl)) (fun _ _ _ h => h) (Or.inl ⟨by rfl, ?_⟩) ?_ ?_
 rotate_left
 ·intro w'
  go_simp
  with_reducible rfl
 rotate_left
 ·simp only [Act.put, sQ0, sQ1, sQ2, i64_w]
  rfl
 refine pure_ (i := 1) (N := (some 109)) (v := ?_) (a' := ?_) #[tt,tt,ff,ff,ff,ff,ff,ff,ff,ff,ff,ff,ff,ff,ff,ff,ff,ff] rfl rfl (any_of HT_.out (by kernel_rfl)) (fun _ _ _ h => h) (Or.inl ⟨by rfl, ?_⟩) ?_ ?_
 rotate_left
 ·intro w'
  go_simp
  with_reducible rfl
 rotate_left
 ·simp only [Act.put, sQ0, sQ1, sQ2, i64_w]
  rfl
 refine pure_ (i := 2) (N := (some 110)) (v := ?_) (a' := ?_) #[tt,tt,tt,ff,ff,ff,ff,ff,ff,ff,ff,ff,ff,ff,ff,ff,ff,ff] rfl rfl (any_of HT_.out (by kernel_rfl)) (fun _ _ _ h => h) (Or.inl ⟨by rfl, ?_⟩) ?_ ?_
 rotate_left
 ·intro w'
  go_simp
  with_reducible rfl
 rotate_left
 ·simp only [Act.put, sQ0, sQ1, sQ2, i64_w]
  rfl
 refine pure_ (i := 3) (N := (some 111)) (v := ?_) (a' := ?_) #[tt,tt,tt,tt,ff,ff,ff,ff,ff,ff,ff,ff,ff,ff,ff,ff,ff,ff] rfl rfl (any_of HT_.out (by kernel_rfl)) (fun _ _ _ h => h) (Or.inl ⟨by rfl, ?_⟩) ?_ ?_
 rotate_left
 ·intro w'
  go_simp
  with_reducible rfl
 rotate_left
 ·simp only [Act.put, sQ0, sQ1, sQ2, i64_w]
  rfl
 refine pure_ (i := 5) (N := (some 113)) (v := ?_) (a' := ?_) #[tt,tt,tt,tt,ff,tt,ff,ff,ff,ff,ff,ff,ff,ff,ff,ff,ff,ff] rfl rfl (any_of HT_.out (by kernel_rfl)) (fun _ _ _ h => h) (Or.inl ⟨by rfl, ?_⟩) ?_ ?_
 rotate_left
 ·intro w'
  go_simp
  with_reducible rfl
 rotate_left
 ·simp only [Act.put, sQ0, sQ1, sQ2, i64_w]
  rfl
 refine pure_ (i := 7) (N := (some 115)) (v := ?_) (a' := ?_) #[tt,tt,tt,tt,ff,tt,ff,tt,ff,ff,ff,ff,ff,ff,ff,ff,ff,ff] rfl rfl (any_of HT_.out (by kernel_rfl)) (fun _ _ _ h => h) (Or.inl ⟨by rfl, ?_⟩) ?_ ?_
 rotate_left
 ·intro w'
  go_simp
  with_reducible rfl
 rotate_left
 ·simp only [Act.put, sQ0, sQ1, sQ2, i64_w]
  rfl
 refine pure_ (i := 8) (N := (some 116)) (v := ?_) (a' := ?_) #[tt,tt,tt,tt,ff,tt,ff,tt,tt,ff,ff,ff,ff,ff,ff,ff,ff,ff] rfl rfl (any_of HT_.out (by kernel_rfl)) (fun _ _ _ h => h) (Or.inl ⟨by rfl, ?_⟩) ?_ ?_
 rotate_left
 ·intro w'
  go_simp
  with_reducible rfl
 rotate_left
 ·simp only [Act.put, sQ0, sQ1, sQ2, i64_w]
  rfl
 refine pure_ (i := 10) (N := (some 118)) (v := ?_) (a' := ?_) #[tt,tt,tt,tt,ff,tt,ff,tt,tt,ff,tt,ff,ff,ff,ff,ff,ff,ff] rfl rfl (any_of HT_.out (by kernel_rfl)) (fun _ _ _ h => h) (Or.inl ⟨by rfl, ?_⟩) ?_ ?_
 rotate_left
 ·intro w'
  go_simp
  with_reducible rfl
 rotate_left
 ·simp only [Act.put, sQ0, sQ1, sQ2, i64_w]
  rfl
 refine take_ (i := 4) (N := (some 112)) (v := ?_) (a' := ?_) #[tt,tt,tt,tt,tt,tt,ff,tt,tt,ff,tt,ff,ff,ff,ff,ff,ff,ff] rfl rfl (take_ofW HT_.out HW_.out (by kernel_rfl)) (fun _ _ _ h => h) (Or.inl ⟨by rfl, ?_⟩) hHeld ?_ ?_
 rotate_left
 ·rintro w' ⟨s0, s1, s2⟩
  go_simp
  with_reducible rfl
 rotate_left
 ·simp only [Act.put, sQ0, sQ1, sQ2, i64_w]
  rfl
 refine take_ (i := 6) (N := (some 114)) (v := ?_) (a' := ?_) #[tt,tt,tt,tt,tt,tt,tt,tt,tt,ff,tt,ff,ff,ff,ff,ff,ff,ff] rfl rfl (take_ofW HT_.out HW_.out (by kernel_rfl)) (fun _ _ _ h => h) (Or.inl ⟨by rfl, ?_⟩) hHeld ?_ ?_
 rotate_left
 ·rintro w' ⟨s0, s1, s2⟩
  go_simp
  with_reducible rfl
 rotate_left
 ·simp only [Act.put, sQ0, sQ1, sQ2, i64_w]
  rfl
 refine take_ (i := 9) (N := (some 117)) (v := ?_) (a' := ?_) #[tt,tt,tt,tt,tt,tt,tt,tt,tt,tt,tt,ff,ff,ff,ff,ff,ff,ff] rfl rfl (take_ofW HT_.out HW_.out (by kernel_rfl)) (fun _ _ _ h => h) (Or.inl ⟨by rfl, ?_⟩) hHeld ?_ ?_
 rotate_left
 ·rintro w' ⟨s0, s1, s2⟩
  go_simp
  with_reducible rfl
 rotate_left
 ·simp only [Act.put, sQ0, sQ1, sQ2, i64_w]
  rfl
 refine take_ (i := 11) (N := (some 119)) (v := ?_) (a' := ?_) #[tt,tt,tt,tt,tt,tt,tt,tt,tt,tt,tt,tt,ff,ff,ff,ff,ff,ff] rfl rfl (take_ofW HT_.out HW_.out (by kernel_rfl)) (fun _ _ _ h => h) (Or.inl ⟨by rfl, ?_⟩) hHeld ?_ ?_
 rotate_left
 ·rintro w' ⟨s0, s1, s2⟩
  go_simp
  with_reducible rfl
 rotate_left
 ·simp only [Act.put, sQ0, sQ1, sQ2, i64_w]
  rfl
 refine pure_ (i := 12) (N := (some 120)) (v := ?_) (a' := ?_) #[tt,tt,tt,tt,tt,tt,tt,tt,tt,tt,tt,tt,tt,ff,ff,ff,ff,ff] rfl rfl (any_of HT_.out (by kernel_rfl)) (fun _ _ _ h => h) (Or.inl ⟨by rfl, ?_⟩) ?_ ?_
 rotate_left
 ·intro w'
  go_simp
  with_reducible rfl
 rotate_left
 ·simp only [Act.put, sQ0, sQ1, sQ2, i64_w]
  rfl
 refine one_ (i := 13) (N := (some 121)) #[tt,tt,tt,tt,tt,tt,tt,tt,tt,tt,tt,tt,tt,tt,ff,ff,ff,ff] rfl rfl (one_of HT_.out (by kernel_rfl)) (by decide) (fun K hK => ?_)
 refine value_ (by rfl) rfl (v := .slice (some ⟨w5.heap.size, 0, none⟩) 1 1) (w1 := w5.alloc (.cells (lfA ⟨e.nn, e.ng, i, e.wk, noEnd, e.t⟩) 99)) (by go_simp; rfl) ?_
 refine hK.out _ _ (HM5.out.alloc _).cells (fun hHeld => ?_)
 clear hK K
 refine norm_ (a' := ?_) ?_ ?_
 rotate_left
 ·show Act.put _ (some 121) _ = _
  simp only [Act.put, sQ0, sQ1, sQ2, i64_w]
  rfl
 refine one_ (i := 14) (N := (some 122)) #[tt,tt,tt,tt,tt,tt,tt,tt,tt,tt,tt,tt,tt,tt,tt,ff,ff,ff] rfl rfl (one_of HT_.out (by kernel_rfl)) (by decide) (fun K hK => ?_)
 refine step_lives (by rfl) _ _ (by rfl) HM5.out ⟨e.nn, e.ng, i, e.wk, noEnd, e.t⟩ (by rfl) (by rfl) HSL ?_
 intro gg cap6 w6 hp
 have HP := Aside0.mk hp
 clear hp
 refine hK.out _ _ HP.out.1 (fun hHeld => ?_)
 clear hK K
 refine norm_ (a' := ?_) ?_ ?_
 rotate_left
 ·show Act.put _ (some 122) _ = _
  simp only [Act.put, sQ0, sQ1, sQ2, i64_w]
  rfl
 refine pure_ (i := 15) (N := (some 123)) (v := ?_) (a' := ?_) #[tt,tt,tt,tt,tt,tt,tt,tt,tt,tt,tt,tt,tt,tt,tt,tt,ff,ff] rfl rfl (any_of HT_.out (by kernel_rfl)) (fun _ _ _ h => h) (Or.inl ⟨by rfl, ?_⟩) ?_ ?_
 rotate_left
 ·intro w'
  go_simp
  with_reducible rfl
 rotate_left
 ·simp only [Act.put, sQ0, sQ1, sQ2, i64_w]
  rfl
 refine pure_ (i := 16) (N := (some 124)) (v := ?_) (a' := ?_) #[tt,tt,tt,tt,tt,tt,tt,tt,tt,tt,tt,tt,tt,tt,tt,tt,tt,ff] rfl rfl (any_of HT_.out (by kernel_rfl)) (fun _ _ _ h => h) (Or.inl ⟨by rfl, ?_⟩) ?_ ?_
 rotate_left
 ·intro w'
  go_simp
  with_reducible rfl
 rotate_left
 ·simp only [Act.put, sQ0, sQ1, sQ2, i64_w]
  rfl
 refine last_ (i := 17) (N := none) #[tt,tt,tt,tt,tt,tt,tt,tt,tt,tt,tt,tt,tt,tt,tt,tt,tt,tt] rfl rfl (one_of HT_.out (by kernel_rfl)) (by decide) (fun K hK => ?_)
 refine skip_ (by rfl) rfl (w1 := w6.setCell ⟨b, 1, none⟩ (.slice (some ⟨gg, 0, none⟩) (s.lives.length + 1) cap6)) (by have q1 := hHeld.1 1; have q2 := hHeld.2.2 1; go_simp) ?_
 refine hK.out _ _ ?_
 clear hK K
 refine done_ (done_of HT_.out (by kernel_rfl)) ?_
 go_wp2
 go_end0
 have hP := HP.out.2
 try simp only [List.length_set] at hP
 exact ⟨rfl, _, by rw [HF.out]; exact hP.st, hP.fr⟩
theorem turn_rearm_keep_old {B b n m1 m2 : Nat} {s : Story} {vl vv vc : Value} (i : Nat) (e : Ev) (w : World) (hB : StIs w B b n s vl vv vc m1 m2) (hw : ∃ kl, keyOf Try.prog 34 (haV e.h) = some kl) (hw2 : ∃ kl, keyOf Try.prog 34 (haV e.new) = some kl) (hn : n ≤ 1000000) (hll : s.lives.length ≤ 1000000) (hk : e.k = 3) (ho : e.op = 3) (he : e.er = 0) (k : Nat) (x : Life) (ha : s.at_ e.h = some k) (hx : s.lives[k]? = some x) (ht : ¬ x.til > i) (j : Nat) (hj : s.at_ e.new = some j) :
  Calls Try.prog 84 #[.pointer (some ⟨b, 0, none⟩), .int .i64 (i : Int), .agg (evA e)] w (TurnPost B b (n + 1) (turnF s i e) vl vc vv m1 m2 w) := by
 have hu97 := Try.underlying97
 have hu54 := Try.underlying54
 have hu34 := Try.underlying34
 have hu99 := Try.underlying99
 have HF1 := Aside0.mk (show turn1 s i e = s from turn1_keep ha hx ht)
 have HF := Aside0.mk (show turnF s i e = s by unfold turnF; rw [HF1.out]; exact turn2_old hj)
 have qk4 : (e.k == 4) = false := beq_eq_false_iff_ne.2 (by omega)
 have rk4 : (e.k != 4) = true := bne_iff_ne.2 (by omega)
 have qk3 : (e.k == 3) = true := beq_iff_eq.2 (by omega)
 have rk3 : (e.k != 3) = false := bne_eq_false_iff_eq.2 (by omega)
 have qop2 : (e.op == 2) = false := beq_eq_false_iff_ne.2 (by omega)
 have rop2 : (e.op != 2) = true := bne_iff_ne.2 (by omega)
 have qop3 : (e.op == 3) = true := beq_iff_eq.2 (by omega)
 have rop3 : (e.op != 3) = false := bne_eq_false_iff_eq.2 (by omega)
 have qop1 : (e.op == 1) = false := beq_eq_false_iff_ne.2 (by omega)
 have rop1 : (e.op != 1) = true := bne_iff_ne.2 (by omega)
 have qer0 : (e.er == 0) = true := beq_iff_eq.2 (by omega)
 have rer0 : (e.er != 0) = false := bne_eq_false_iff_eq.2 (by omega)
 have hl0 := fun q => (Mid.start hB e).look hw ((w.alloc (.cells (evA e) 54)).drewN q) rfl
 rw [show (e.hn, e.hg) = e.h from rfl, ha] at hl0
 simp only [Option.map_some, Option.getD_some, Option.isSome_some] at hl0
 obtain ⟨g, cp, rfl, hcp, hgl, hcell⟩ := hB.rv.at_ (fun _ => rfl) hx
 have hkl : k < s.lives.length := (List.getElem?_eq_some_iff.1 hx).1
 have p0 := eq_true (show (0 : Int) ≤ (k : Int) by omega)
 have p1 := eq_true (show (k : Int) < (s.lives.length : Int) by omega)
 have c4 := (below_alloc (Below.refl w.heap.size w) (.cells (evA e) 54)).cell (p := ⟨g, k * 6 + 4, none⟩) hgl |>.trans (hcell 4 (by decide))
 have gt : decide (x.til > (i : Int)) = false := decide_eq_false ht
 clear hcell hkl hx
 have HB := Aside0.mk hB
 have hlt := hB.lt
 have hc := fun i => hB.cell i
 have HW2 := Aside0.mk hw2
 have HN := Aside0.mk hn
 have HLL := Aside0.mk hll
 have HJ := Aside0.mk hj
 clear hB hw hw2 hn hll hk ho he ha ht hj
 go_enter Try.func84, Try.ntmps84
 go_wp2
 go_quiet (fail)
 go_upto_region 5 with (fail)
 refine gen_world (fun W => Mid w W B b n m1 m2 (.slice (some ⟨g, 0, none⟩) s.lives.length cp) s vl (.slice (some ⟨g, 0, none⟩) s.lives.length cp) vc e) (by exact (Mid.start HB.out e).drewN _) fun W hM => ?_
 clear hlt hc hl0 c4 hgl
 have hlt := hM.st.lt
 have hc := fun i => hM.st.cell i
 have hel := blk_lt hM.ev
 have hce := fun i => blk_cell hM.ev i
 have HM := Aside0.mk hM
 have hl1 := fun q => hM.look HW2.out (W.drewN q) rfl
 simp only [show (e.nn, e.ng) = e.new from rfl, HJ.out] at hl1
 clear hM
 simp only [Option.map_some, Option.getD_some, Option.isSome_some] at hl1
 go_wp2
 go_quiet (fail)
 go_wp2
 go_end0
 exact ⟨rfl, _, by rw [HF.out]; exact (HM.out.drewN _).st.up (by omega), (HM.out.drewN _).fr⟩
theorem turn_rearm_keep_new {B b n m1 m2 : Nat} {s : Story} {vl vv vc : Value} (i : Nat) (e : Ev) (w : World) (hB : StIs w B b n s vl vv vc m1 m2) (hw : ∃ kl, keyOf Try.prog 34 (haV e.h) = some kl) (hw2 : ∃ kl, keyOf Try.prog 34 (haV e.new) = some kl) (hn : n ≤ 1000000) (hll : s.lives.length ≤ 1000000) (hk : e.k = 3) (ho : e.op = 3) (he : e.er = 0) (k : Nat) (x : Life) (ha : s.at_ e.h = some k) (hx : s.lives[k]? = some x) (ht : ¬ x.til > i) (hj : s.at_ e.new = none) :
  Calls Try.prog 84 #[.pointer (some ⟨b, 0, none⟩), .int .i64 (i : Int), .agg (evA e)] w (TurnPost B b (n + 1) (turnF s i e) vl vc vv m1 m2 w) := by
 have hu97 := Try.underlying97
 have hu54 := Try.underlying54
 have hu34 := Try.underlying34
 have hu99 := Try.underlying99
 have HF1 := Aside0.mk (show turn1 s i e = s from turn1_keep ha hx ht)
 have HF := Aside0.mk (show turnF s i e = { (s : Story) with at_ := updH s.at_ e.new s.lives.length, lives := (s : Story).lives ++ [⟨e.nn, e.ng, i, e.wk, noEnd, e.t⟩] } by unfold turnF; rw [HF1.out, turn2_new (s := s) (by omega) hj])
 have qk4 : (e.k == 4) = false := beq_eq_false_iff_ne.2 (by omega)
 have rk4 : (e.k != 4) = true := bne_iff_ne.2 (by omega)
 have qk3 : (e.k == 3) = true := beq_iff_eq.2 (by omega)
 have rk3 : (e.k != 3) = false := bne_eq_false_iff_eq.2 (by omega)
 have qop2 : (e.op == 2) = false := beq_eq_false_iff_ne.2 (by omega)
 have rop2 : (e.op != 2) = true := bne_iff_ne.2 (by omega)
 have qop3 : (e.op == 3) = true := beq_iff_eq.2 (by omega)
 have rop3 : (e.op != 3) = false := bne_eq_false_iff_eq.2 (by omega)
 have qop1 : (e.op == 1) = false := beq_eq_false_iff_ne.2 (by omega)
 have rop1 : (e.op != 1) = true := bne_iff_ne.2 (by omega)
 have qer0 : (e.er == 0) = true := beq_iff_eq.2 (by omega)
 have rer0 : (e.er != 0) = false := bne_eq_false_iff_eq.2 (by omega)
 have hl0 := fun q => (Mid.start hB e).look hw ((w.alloc (.cells (evA e) 54)).drewN q) rfl
 rw [show (e.hn, e.hg) = e.h from rfl, ha] at hl0
 simp only [Option.map_some, Option.getD_some, Option.isSome_some] at hl0
 obtain ⟨g, cp, rfl, hcp, hgl, hcell⟩ := hB.rv.at_ (fun _ => rfl) hx
 have hkl : k < s.lives.length := (List.getElem?_eq_some_iff.1 hx).1
 have p0 := eq_true (show (0 : Int) ≤ (k : Int) by omega)
 have p1 := eq_true (show (k : Int) < (s.lives.length : Int) by omega)
 have c4 := (below_alloc (Below.refl w.heap.size w) (.cells (evA e) 54)).cell (p := ⟨g, k * 6 + 4, none⟩) hgl |>.trans (hcell 4 (by decide))
 have gt : decide (x.til > (i : Int)) = false := decide_eq_false ht
 clear hcell hkl hx
 have HB := Aside0.mk hB
 have hlt := hB.lt
 have hc := fun i => hB.cell i
 have HW2 := Aside0.mk hw2
 have HN := Aside0.mk hn
 have HLL := Aside0.mk hll
 have HJ := Aside0.mk hj
 clear hB hw hw2 hn hll hk ho he ha ht hj
 go_enter Try.func84, Try.ntmps84
 go_wp2
 go_quiet (fail)
 go_upto_region 5 with (fail)
 refine gen_world (fun W => Mid w W B b n m1 m2 (.slice (some ⟨g, 0, none⟩) s.lives.length cp) s vl (.slice (some ⟨g, 0, none⟩) s.lives.length cp) vc e) (by exact (Mid.start HB.out e).drewN _) fun W hM => ?_
 clear hlt hc hl0 c4 hgl
 have hlt := hM.st.lt
 have hc := fun i => hM.st.cell i
 have hel := blk_lt hM.ev
 have hce := fun i => blk_cell hM.ev i
 have HM := Aside0.mk hM
 have hl1 := fun q => hM.look HW2.out (W.drewN q) rfl
 simp only [show (e.nn, e.ng) = e.new from rfl, HJ.out] at hl1
 clear hM
 simp only [Option.map_none, Option.getD_none, Option.isSome_none] at hl1
 go_wp2
 go_quiet (fail)
 go_wp2
 refine gen_world (fun W2 => Mid w W2 B b n m1 m2 (.slice (some ⟨g, 0, none⟩) s.lives.length cp) s vl (.slice (some ⟨g, 0, none⟩) s.lives.length cp) vc e) (by exact HM.out.drewN _) fun W2 hM2 => ?_
 clear hlt hc hel hce hl1
 refine still_tail_at 11 (by kernel_rfl) (by kernel_rfl) fun w2 hw2 => ?_
 have HM3 := Aside0.mk (show Mid w w2 B b n m1 m2 (.slice (some ⟨g, 0, none⟩) s.lives.length cp) s vl (.slice (some ⟨g, 0, none⟩) s.lives.length cp) vc e by rw [hw2]; exact hM2.drew)
 clear hw2 hM2 HM
 have hlt := HM3.out.st.lt
 have hc := fun i => HM3.out.st.cell i
 have hel := blk_lt HM3.out.ev
 have hce := fun i => blk_cell HM3.out.ev i
 simp only [List.take_succ_cons, List.take_zero, List.drop_succ_cons, List.drop_zero]
 repeat still_step
 refine wpStill_nil ?_
 obtain ⟨z1, hz1, hm1⟩ := HM3.out.st.ma
 obtain ⟨kl2, hkl2⟩ := HW2.out
 refine wpl_store ha_inj rfl _ _ _ 86 rfl hm1 lawH Try.underlying86 (by unfold maxLen; have := HN.out; omega) (y := e.new) hkl2 (val := .int .i64 (s.lives.length : Int)) rfl rfl rfl ?_
 intro w4 hm4 hg4
 rw [nV_upd] at hm4
 have HM4 := Aside0.mk (HM3.out.stored hm4 (by split <;> omega) hg4)
 clear hlt hc hel hce hm4 hg4 hm1 hz1 HM3 hkl2
 go_wp2
 have HSL : (s : Story).lives.length ≤ 1000000 := by first | exact HLL.out | (simp only [List.length_set]; exact HLL.out)
 have hlt := HM4.out.st.lt
 have hel := blk_lt HM4.out.ev
 have hll := HLL.out
 refine start_ (n := 18) (S := (fun w' => (∀ i, w'.cell? ⟨b, i, none⟩ = (stA vl (.slice (some ⟨g, 0, none⟩) s.lives.length cp) vc m1 m2)[i]?) ∧ (∀ i, w'.cell? ⟨w.heap.size, i, none⟩ = (evA e)[i]?) ∧ (∀ i, w'.frozen? ⟨b, i, none⟩ = false))) (ds := [17]) #[ff,ff,ff,ff,ff,ff,ff,ff,ff,ff,ff,ff,ff,ff,ff,ff,ff,ff] (by kernel_rfl) rfl rfl HM4.out.drew.cells (fun hHeld => ?_)
 refine with_tabW turn.tab9 turn.bits9 (fun HT_ HW_ => ?_)
 have HM5 := Aside0.mk HM4.out.drew
 generalize w4.drew = w5 at HM5 hHeld ⊢
 clear hlt hel
 have hlt := HM5.out.st.lt
 refine pure_ (i := 0) (N := (some 108)) (v := ?_) (a' := ?_) #[tt,ff,ff,ff,ff,ff,ff,ff,ff,ff,ff,ff,ff,ff,ff,ff,ff,ff] rfl rfl (any_of HT_.out (by kernel_rfl)) (fun _ _ _ h => h) (Or.inl ⟨by rfl, ?_⟩) ?_ ?_
 rotate_left
 ·intro w'
  go_simp
  with_reducible rfl
 rotate_left
 ·simp only [Act.put, sQ0, sQ1, sQ2, i64_w]
  rfl
 refine pure_ (i := 1) (N := (some 109)) (v := ?_) (a' := ?_) #[tt,tt,ff,ff,ff,ff,ff,ff,ff,ff,ff,ff,ff,ff,ff,ff,ff,ff] rfl rfl (any_of HT_.out (by kernel_rfl)) (fun _ _ _ h => h) (Or.inl ⟨by rfl, ?_⟩) ?_ ?_
 rotate_left
 ·intro w'
  go_simp
  with_reducible rfl
 rotate_left
 ·simp only [Act.put, sQ0, sQ1, sQ2, i64_w]
  rfl
 refine pure_ (i := 2) (N := (some 110)) (v := ?_) (a' := ?_) #[tt,tt,tt,ff,ff,ff,ff,ff,ff,ff,ff,ff,ff,ff,ff,ff,ff,ff] rfl rfl (any_of HT_.out (by kernel_rfl)) (fun _ _ _ h => h) (Or.inl ⟨by rfl, ?_⟩) ?_ ?_
 rotate_left
 ·intro w'
  go_simp
  with_reducible rfl
 rotate_left
 ·simp only [Act.put, sQ0, sQ1, sQ2, i64_w]
  rfl
 refine pure_ (i := 3) (N := (some 111)) (v := ?_) (a' := ?_) #[tt,tt,tt,tt,ff,ff,ff,ff,ff,ff,ff,ff,ff,ff,ff,ff,ff,ff] rfl rfl (any_of HT_.out (by kernel_rfl)) (fun _ _ _ h => h) (Or.inl ⟨by rfl, ?_⟩) ?_ ?_
 rotate_left
 ·intro w'
  go_simp
  with_reducible rfl
 rotate_left
 ·simp only [Act.put, sQ0, sQ1, sQ2, i64_w]
  rfl
 refine pure_ (i := 5) (N := (some 113)) (v := ?_) (a' := ?_) #[tt,tt,tt,tt,ff,tt,ff,ff,ff,ff,ff,ff,ff,ff,ff,ff,ff,ff] rfl rfl (any_of HT_.out (by kernel_rfl)) (fun _ _ _ h => h) (Or.inl ⟨by rfl, ?_⟩) ?_ ?_
 rotate_left
 ·intro w'
  go_simp
  with_reducible rfl
 rotate_left
 ·simp only [Act.put, sQ0, sQ1, sQ2, i64_w]
  rfl
 refine pure_ (i := 7) (N := (some 115)) (v := ?_) (a' := ?_) #[tt,tt,tt,tt,ff,tt,ff,tt,ff,ff,ff,ff,ff,ff,ff,ff,ff,ff] rfl rfl (any_of HT_.out (by kernel_rfl)) (fun _ _ _ h => h) (Or.inl ⟨by rfl, ?_⟩) ?_ ?_
 rotate_left
 ·intro w'
  go_simp
  with_reducible rfl
 rotate_left
 ·simp only [Act.put, sQ0, sQ1, sQ2, i64_w]
  rfl
 refine pure_ (i := 8) (N := (some 116)) (v := ?_) (a' := ?_) #[tt,tt,tt,tt,ff,tt,ff,tt,tt,ff,ff,ff,ff,ff,ff,ff,ff,ff] rfl rfl (any_of HT_.out (by kernel_rfl)) (fun _ _ _ h => h) (Or.inl ⟨by rfl, ?_⟩) ?_ ?_
 rotate_left
 ·intro w'
  go_simp
  with_reducible rfl
 rotate_left
 ·simp only [Act.put, sQ0, sQ1, sQ2, i64_w]
  rfl
 refine pure_ (i := 10) (N := (some 118)) (v := ?_) (a' := ?_) #[tt,tt,tt,tt,ff,tt,ff,tt,tt,ff,tt,ff,ff,ff,ff,ff,ff,ff] rfl rfl (any_of HT_.out (by kernel_rfl)) (fun _ _ _ h => h) (Or.inl ⟨by rfl, ?_⟩) ?_ ?_
 rotate_left
 ·intro w'
  go_simp
  with_reducible rfl
 rotate_left
 ·simp only [Act.put, sQ0, sQ1, sQ2, i64_w]
  rfl
 refine take_ (i := 4) (N := (some 112)) (v := ?_) (a' := ?_) #[tt,tt,tt,tt,tt,tt,ff,tt,tt,ff,tt,ff,ff,ff,ff,ff,ff,ff] rfl rfl (take_ofW HT_.out HW_.out (by kernel_rfl)) (fun _ _ _ h => h) (Or.inl ⟨by rfl, ?_⟩) hHeld ?_ ?_
 rotate_left
 ·rintro w' ⟨s0, s1, s2⟩
  go_simp
  with_reducible rfl
 rotate_left
 ·simp only [Act.put, sQ0, sQ1, sQ2, i64_w]
  rfl
 refine take_ (i := 6) (N := (some 114)) (v := ?_) (a' := ?_) #[tt,tt,tt,tt,tt,tt,tt,tt,tt,ff,tt,ff,ff,ff,ff,ff,ff,ff] rfl rfl (take_ofW HT_.out HW_.out (by kernel_rfl)) (fun _ _ _ h => h) (Or.inl ⟨by rfl, ?_⟩) hHeld ?_ ?_
 rotate_left
 ·rintro w' ⟨s0, s1, s2⟩
  go_simp
  with_reducible rfl
 rotate_left
 ·simp only [Act.put, sQ0, sQ1, sQ2, i64_w]
  rfl
 refine take_ (i := 9) (N := (some 117)) (v := ?_) (a' := ?_) #[tt,tt,tt,tt,tt,tt,tt,tt,tt,tt,tt,ff,ff,ff,ff,ff,ff,ff] rfl rfl (take_ofW HT_.out HW_.out (by kernel_rfl)) (fun _ _ _ h => h) (Or.inl ⟨by rfl, ?_⟩) hHeld ?_ ?_
 rotate_left
 ·rintro w' ⟨s0, s1, s2⟩
  go_simp
  with_reducible rfl
 rotate_left
 ·simp only [Act.put, sQ0, sQ1, sQ2, i64_w]
  rfl
 refine take_ (i := 11) (N := (some 119)) (v := ?_) (a' := ?_) #[tt,tt,tt,tt,tt,tt,tt,tt,tt,tt,tt,tt,ff,ff,ff,ff,ff,ff] rfl rfl (take_ofW HT_.out HW_.out (by kernel_rfl)) (fun _ _ _ h => h) (Or.inl ⟨by rfl, ?_⟩) hHeld ?_ ?_
 rotate_left
 ·rintro w' ⟨s0, s1, s2⟩
  go_simp
  with_reducible rfl
 rotate_left
 ·simp only [Act.put, sQ0, sQ1, sQ2, i64_w]
  rfl
 refine pure_ (i := 12) (N := (some 120)) (v := ?_) (a' := ?_) #[tt,tt,tt,tt,tt,tt,tt,tt,tt,tt,tt,tt,tt,ff,ff,ff,ff,ff] rfl rfl (any_of HT_.out (by kernel_rfl)) (fun _ _ _ h => h) (Or.inl ⟨by rfl, ?_⟩) ?_ ?_
 rotate_left
 ·intro w'
  go_simp
  with_reducible rfl
 rotate_left
 ·simp only [Act.put, sQ0, sQ1, sQ2, i64_w]
  rfl
 refine one_ (i := 13) (N := (some 121)) #[tt,tt,tt,tt,tt,tt,tt,tt,tt,tt,tt,tt,tt,tt,ff,ff,ff,ff] rfl rfl (one_of HT_.out (by kernel_rfl)) (by decide) (fun K hK => ?_)
 refine value_ (by rfl) rfl (v := .slice (some ⟨w5.heap.size, 0, none⟩) 1 1) (w1 := w5.alloc (.cells (lfA ⟨e.nn, e.ng, i, e.wk, noEnd, e.t⟩) 99)) (by go_simp; rfl) ?_
 refine hK.out _ _ (HM5.out.alloc _).cells (fun hHeld => ?_)
 clear hK K
 refine norm_ (a' := ?_) ?_ ?_
 rotate_left
 ·show Act.put _ (some 121) _ = _
  simp only [Act.put, sQ0, sQ1, sQ2, i64_w]
  rfl
 refine one_ (i := 14) (N := (some 122)) #[tt,tt,tt,tt,tt,tt,tt,tt,tt,tt,tt,tt,tt,tt,tt,ff,ff,ff] rfl rfl (one_of HT_.out (by kernel_rfl)) (by decide) (fun K hK => ?_)
 refine step_lives (by rfl) _ _ (by rfl) HM5.out ⟨e.nn, e.ng, i, e.wk, noEnd, e.t⟩ (by rfl) (by rfl) HSL ?_
 intro gg cap6 w6 hp
 have HP := Aside0.mk hp
 clear hp
 refine hK.out _ _ HP.out.1 (fun hHeld => ?_)
 clear hK K
 refine norm_ (a' := ?_) ?_ ?_
 rotate_left
 ·show Act.put _ (some 122) _ = _
  simp only [Act.put, sQ0, sQ1, sQ2, i64_w]
  rfl
 refine pure_ (i := 15) (N := (some 123)) (v := ?_) (a' := ?_) #[tt,tt,tt,tt,tt,tt,tt,tt,tt,tt,tt,tt,tt,tt,tt,tt,ff,ff] rfl rfl (any_of HT_.out (by kernel_rfl)) (fun _ _ _ h => h) (Or.inl ⟨by rfl, ?_⟩) ?_ ?_
 rotate_left
 ·intro w'
  go_simp
  with_reducible rfl
 rotate_left
 ·simp only [Act.put, sQ0, sQ1, sQ2, i64_w]
  rfl
 refine pure_ (i := 16) (N := (some 124)) (v := ?_) (a' := ?_) #[tt,tt,tt,tt,tt,tt,tt,tt,tt,tt,tt,tt,tt,tt,tt,tt,tt,ff] rfl rfl (any_of HT_.out (by kernel_rfl)) (fun _ _ _ h => h) (Or.inl ⟨by rfl, ?_⟩) ?_ ?_
 rotate_left
 ·intro w'
  go_simp
  with_reducible rfl
 rotate_left
 ·simp only [Act.put, sQ0, sQ1, sQ2, i64_w]
  rfl
 refine last_ (i := 17) (N := none) #[tt,tt,tt,tt,tt,tt,tt,tt,tt,tt,tt,tt,tt,tt,tt,tt,tt,tt] rfl rfl (one_of HT_.out (by kernel_rfl)) (by decide) (fun K hK => ?_)
 refine skip_ (by rfl) rfl (w1 := w6.setCell ⟨b, 1, none⟩ (.slice (some ⟨gg, 0, none⟩) (s.lives.length + 1) cap6)) (by have q1 := hHeld.1 1; have q2 := hHeld.2.2 1; go_simp) ?_
 refine hK.out _ _ ?_
 clear hK K
 refine done_ (done_of HT_.out (by kernel_rfl)) ?_
 go_wp2
 go_end0
 have hP := HP.out.2
 try simp only [List.length_set] at hP
 exact ⟨rfl, _, by rw [HF.out]; exact hP.st, hP.fr⟩
theorem turn_rearm_no {B b n m1 m2 : Nat} {s : Story} {vl vv vc : Value} (i : Nat) (e : Ev) (w : World) (hB : StIs w B b n s vl vv vc m1 m2) (hw : ∃ kl, keyOf Try.prog 34 (haV e.h) = some kl) (hw2 : ∃ kl, keyOf Try.prog 34 (haV e.new) = some kl) (hn : n ≤ 1000000) (hll : s.lives.length ≤ 1000000) (hk : e.k = 3) (ho : e.op = 3) (he : e.er ≠ 0) :
  Calls Try.prog 84 #[.pointer (some ⟨b, 0, none⟩), .int .i64 (i : Int), .agg (evA e)] w (TurnPost B b (n + 1) (turnF s i e) vl vc vv m1 m2 w) := by
 have hu97 := Try.underlying97
 have hu54 := Try.underlying54
 have hu34 := Try.underlying34
 have hu99 := Try.underlying99
 have HF1 := Aside0.mk (show turn1 s i e = s from turn1_no (by rintro (q | q | q) <;> omega))
 have HF := Aside0.mk (show turnF s i e = s by unfold turnF; rw [HF1.out]; exact turn2_no (by omega))
 have qk4 : (e.k == 4) = false := beq_eq_false_iff_ne.2 (by omega)
 have rk4 : (e.k != 4) = true := bne_iff_ne.2 (by omega)
 have qk3 : (e.k == 3) = true := beq_iff_eq.2 (by omega)
 have rk3 : (e.k != 3) = false := bne_eq_false_iff_eq.2 (by omega)
 have qop2 : (e.op == 2) = false := beq_eq_false_iff_ne.2 (by omega)
 have rop2 : (e.op != 2) = true := bne_iff_ne.2 (by omega)
 have qop3 : (e.op == 3) = true := beq_iff_eq.2 (by omega)
 have rop3 : (e.op != 3) = false := bne_eq_false_iff_eq.2 (by omega)
 have qop1 : (e.op == 1) = false := beq_eq_false_iff_ne.2 (by omega)
 have rop1 : (e.op != 1) = true := bne_iff_ne.2 (by omega)
 have qer0 : (e.er == 0) = false := beq_eq_false_iff_ne.2 (by omega)
 have rer0 : (e.er != 0) = true := bne_iff_ne.2 (by omega)
 have hl0 := fun q => (Mid.start hB e).look hw ((w.alloc (.cells (evA e) 54)).drewN q) rfl
 obtain ⟨z0, hz0⟩ : ∃ z0, ((s.at_ (e.hn, e.hg)).map (fun j => (j : Int))).getD 0 = z0 := ⟨_, rfl⟩
 obtain ⟨z1, hz1⟩ : ∃ z1, (s.at_ (e.hn, e.hg)).isSome = z1 := ⟨_, rfl⟩
 rw [hz0, hz1] at hl0
 clear hz0 hz1
 have HB := Aside0.mk hB
 have hlt := hB.lt
 have hc := fun i => hB.cell i
 have HW2 := Aside0.mk hw2
 have HN := Aside0.mk hn
 have HLL := Aside0.mk hll
 clear hB hw hw2 hn hll hk ho he
 go_enter Try.func84, Try.ntmps84
 go_wp2
 go_quiet (fail)
 go_wp2
 all_goals
  go_end0
  exact ⟨rfl, _, by rw [HF.out]; exact ((Mid.start HB.out e).drewN _).st.up (by omega), ((Mid.start HB.out e).drewN _).fr⟩
theorem turn_start_old {B b n m1 m2 : Nat} {s : Story} {vl vv vc : Value} (i : Nat) (e : Ev) (w : World) (hB : StIs w B b n s vl vv vc m1 m2) (hw : ∃ kl, keyOf Try.prog 34 (haV e.h) = some kl) (hw2 : ∃ kl, keyOf Try.prog 34 (haV e.new) = some kl) (hn : n ≤ 1000000) (hll : s.lives.length ≤ 1000000) (hk : e.k = 3) (ho : e.op = 1) (he : e.er = 0) (j : Nat) (hj : s.at_ e.new = some j) :
  Calls Try.prog 84 #[.pointer (some ⟨b, 0, none⟩), .int .i64 (i : Int), .agg (evA e)] w (TurnPost B b (n + 1) (turnF s i e) vl vc vv m1 m2 w) := by
 obtain ⟨A9, c9, rfl, hc9⟩ := hB.rv.form
 clear hc9
 have hu97 := Try.underlying97
 have hu54 := Try.underlying54
 have hu34 := Try.underlying34
 have hu99 := Try.underlying99
 have HF1 := Aside0.mk (show turn1 s i e = s from turn1_no (by rintro (q | q | q) <;> omega))
 have HF := Aside0.mk (show turnF s i e = s by unfold turnF; rw [HF1.out]; exact turn2_old hj)
 have qk4 : (e.k == 4) = false := beq_eq_false_iff_ne.2 (by omega)
 have rk4 : (e.k != 4) = true := bne_iff_ne.2 (by omega)
 have qk3 : (e.k == 3) = true := beq_iff_eq.2 (by omega)
 have rk3 : (e.k != 3) = false := bne_eq_false_iff_eq.2 (by omega)
 have qop2 : (e.op == 2) = false := beq_eq_false_iff_ne.2 (by omega)
 have rop2 : (e.op != 2) = true := bne_iff_ne.2 (by omega)
 have qop3 : (e.op == 3) = false := beq_eq_false_iff_ne.2 (by omega)
 have rop3 : (e.op != 3) = true := bne_iff_ne.2 (by omega)
 have qop1 : (e.op == 1) = true := beq_iff_eq.2 (by omega)
 have rop1 : (e.op != 1) = false := bne_eq_false_iff_eq.2 (by omega)
 have qer0 : (e.er == 0) = true := beq_iff_eq.2 (by omega)
 have rer0 : (e.er != 0) = false := bne_eq_false_iff_eq.2 (by omega)
 have hl0 := fun q => (Mid.start hB e).look hw ((w.alloc (.cells (evA e) 54)).drewN q) rfl
 obtain ⟨z0, hz0⟩ : ∃ z0, ((s.at_ (e.hn, e.hg)).map (fun j => (j : Int))).getD 0 = z0 := ⟨_, rfl⟩
 obtain ⟨z1, hz1⟩ : ∃ z1, (s.at_ (e.hn, e.hg)).isSome = z1 := ⟨_, rfl⟩
 rw [hz0, hz1] at hl0
 clear hz0 hz1
 have HB := Aside0.mk hB
 have hlt := hB.lt
 have hc := fun i => hB.cell i
 have HW2 := Aside0.mk hw2
 have HN := Aside0.mk hn
 have HLL := Aside0.mk hll
 have HJ := Aside0.mk hj
 clear hB hw hw2 hn hll hk ho he hj
 go_enter Try.func84, Try.ntmps84
 go_wp2
 go_quiet (fail)
 go_upto_region 5 with (fail)
 refine gen_world (fun W => Mid w W B b n m1 m2 (.slice A9 s.lives.length c9) s vl (.slice A9 s.lives.length c9) vc e) (by exact (Mid.start HB.out e).drewN _) fun W hM => ?_
 clear hlt hc hl0
 have hlt := hM.st.lt
 have hc := fun i => hM.st.cell i
 have hel := blk_lt hM.ev
 have hce := fun i => blk_cell hM.ev i
 have HM := Aside0.mk hM
 have hl1 := fun q => hM.look HW2.out (W.drewN q) rfl
 simp only [show (e.nn, e.ng) = e.new from rfl, HJ.out] at hl1
 clear hM
 simp only [Option.map_some, Option.getD_some, Option.isSome_some] at hl1
 go_wp2
 go_quiet (fail)
 go_wp2
 go_end0
 exact ⟨rfl, _, by rw [HF.out]; exact (HM.out.drewN _).st.up (by omega), (HM.out.drewN _).fr⟩
theorem turn_start_new {B b n m1 m2 : Nat} {s : Story} {vl vv vc : Value} (i : Nat) (e : Ev) (w : World) (hB : StIs w B b n s vl vv vc m1 m2) (hw : ∃ kl, keyOf Try.prog 34 (haV e.h) = some kl) (hw2 : ∃ kl, keyOf Try.prog 34 (haV e.new) = some kl) (hn : n ≤ 1000000) (hll : s.lives.length ≤ 1000000) (hk : e.k = 3) (ho : e.op = 1) (he : e.er = 0) (hj : s.at_ e.new = none) :
  Calls Try.prog 84 #[.pointer (some ⟨b, 0, none⟩), .int .i64 (i : Int), .agg (evA e)] w (TurnPost B b (n + 1) (turnF s i e) vl vc vv m1 m2 w) := by
 obtain ⟨A9, c9, rfl, hc9⟩ := hB.rv.form
 clear hc9
 have hu97 := Try.underlying97
 have hu54 := Try.underlying54
 have hu34 := Try.underlying34
 have hu99 := Try.underlying99
 have HF1 := Aside0.mk (show turn1 s i e = s from turn1_no (by rintro (q | q | q) <;> omega))
 have HF := Aside0.mk (show turnF s i e = { (s : Story) with at_ := updH s.at_ e.new s.lives.length, lives := (s : Story).lives ++ [⟨e.nn, e.ng, i, e.wk, noEnd, e.t⟩] } by unfold turnF; rw [HF1.out, turn2_new (s := s) (by omega) hj])
 have qk4 : (e.k == 4) = false := beq_eq_false_iff_ne.2 (by omega)
 have rk4 : (e.k != 4) = true := bne_iff_ne.2 (by omega)
 have qk3 : (e.k == 3) = true := beq_iff_eq.2 (by omega)
 have rk3 : (e.k != 3) = false := bne_eq_false_iff_eq.2 (by omega)
 have qop2 : (e.op == 2) = false := beq_eq_false_iff_ne.2 (by omega)
 have rop2 : (e.op != 2) = true := bne_iff_ne.2 (by omega)
 have qop3 : (e.op == 3) = false := beq_eq_false_iff_ne.2 (by omega)
 have rop3 : (e.op != 3) = true := bne_iff_ne.2 (by omega)
 have qop1 : (e.op == 1) = true := beq_iff_eq.2 (by omega)
 have rop1 : (e.op != 1) = false := bne_eq_false_iff_eq.2 (by omega)
 have qer0 : (e.er == 0) = true := beq_iff_eq.2 (by omega)
 have rer0 : (e.er != 0) = false := bne_eq_false_iff_eq.2 (by omega)
 have hl0 := fun q => (Mid.start hB e).look hw ((w.alloc (.cells (evA e) 54)).drewN q) rfl
 obtain ⟨z0, hz0⟩ : ∃ z0, ((s.at_ (e.hn, e.hg)).map (fun j => (j : Int))).getD 0 = z0 := ⟨_, rfl⟩
 obtain ⟨z1, hz1⟩ : ∃ z1, (s.at_ (e.hn, e.hg)).isSome = z1 := ⟨_, rfl⟩
 rw [hz0, hz1] at hl0
 clear hz0 hz1
 have HB := Aside0.mk hB
 have hlt := hB.lt
 have hc := fun i => hB.cell i
 have HW2 := Aside0.mk hw2
 have HN := Aside0.mk hn
 have HLL := Aside0.mk hll
 have HJ := Aside0.mk hj
 clear hB hw hw2 hn hll hk ho he hj
 go_enter Try.func84, Try.ntmps84
 go_wp2
 go_quiet (fail)
 go_upto_region 5 with (fail)
 refine gen_world (fun W => Mid w W B b n m1 m2 (.slice A9 s.lives.length c9) s vl (.slice A9 s.lives.length c9) vc e) (by exact (Mid.start HB.out e).drewN _) fun W hM => ?_
 clear hlt hc hl0
 have hlt := hM.st.lt
 have hc := fun i => hM.st.cell i
 have hel := blk_lt hM.ev
 have hce := fun i => blk_cell hM.ev i
 have HM := Aside0.mk hM
 have hl1 := fun q => hM.look HW2.out (W.drewN q) rfl
 simp only [show (e.nn, e.ng) = e.new from rfl, HJ.out] at hl1
 clear hM
 simp only [Option.map_none, Option.getD_none, Option.isSome_none] at hl1
 go_wp2
 go_quiet (fail)
 go_wp2
 refine gen_world (fun W2 => Mid w W2 B b n m1 m2 (.slice A9 s.lives.length c9) s vl (.slice A9 s.lives.length c9) vc e) (by exact HM.out.drewN _) fun W2 hM2 => ?_
 clear hlt hc hel hce hl1
 refine still_tail_at 11 (by kernel_rfl) (by kernel_rfl) fun w2 hw2 => ?_
 have HM3 := Aside0.mk (show Mid w w2 B b n m1 m2 (.slice A9 s.lives.length c9) s vl (.slice A9 s.lives.length c9) vc e by rw [hw2]; exact hM2.drew)
 clear hw2 hM2 HM
 have hlt := HM3.out.st.lt
 have hc := fun i => HM3.out.st.cell i
 have hel := blk_lt HM3.out.ev
 have hce := fun i => blk_cell HM3.out.ev i
 simp only [List.take_succ_cons, List.take_zero, List.drop_succ_cons, List.drop_zero]
 repeat still_step
 refine wpStill_nil ?_
 obtain ⟨z1, hz1, hm1⟩ := HM3.out.st.ma
 obtain ⟨kl2, hkl2⟩ := HW2.out
 refine wpl_store ha_inj rfl _ _ _ 86 rfl hm1 lawH Try.underlying86 (by unfold maxLen; have := HN.out; omega) (y := e.new) hkl2 (val := .int .i64 (s.lives.length : Int)) rfl rfl rfl ?_
 intro w4 hm4 hg4
 rw [nV_upd] at hm4
 have HM4 := Aside0.mk (HM3.out.stored hm4 (by split <;> omega) hg4)
 clear hlt hc hel hce hm4 hg4 hm1 hz1 HM3 hkl2
 go_wp2
 have HSL : (s : Story).lives.length ≤ 1000000 := by first | exact HLL.out | (simp only [List.length_set]; exact HLL.out)
 have hlt := HM4.out.st.lt
 have hel := blk_lt HM4.out.ev
 have hll := HLL.out
 refine start_ (n := 18) (S := (fun w' => (∀ i, w'.cell? ⟨b, i, none⟩ = (stA vl (.slice A9 s.lives.length c9) vc m1 m2)[i]?) ∧ (∀ i, w'.cell? ⟨w.heap.size, i, none⟩ = (evA e)[i]?) ∧ (∀ i, w'.frozen? ⟨b, i, none⟩ = false))) (ds := [17]) #[ff,ff,ff,ff,ff,ff,ff,ff,ff,ff,ff,ff,ff,ff,ff,ff,ff,ff] (by kernel_rfl) rfl rfl HM4.out.drew.cells (fun hHeld => ?_)
 refine with_tabW turn.tab9 turn.bits9 (fun HT_ HW_ => ?_)
 have HM5 := Aside0.mk HM4.out.drew
 generalize w4.drew = w5 at HM5 hHeld ⊢
 clear hlt hel
 have hlt := HM5.out.st.lt
 refine pure_ (i := 0) (N := (some 108)) (v := ?_) (a' := ?_) #[tt,ff,ff,ff,ff,ff,ff,ff,ff,ff,ff,ff,ff,ff,ff,ff,ff,ff] rfl rfl (any_of HT_.out (by kernel_rfl)) (fun _ _ _ h => h) (Or.inl ⟨by rfl, ?_⟩) ?_ ?_
 rotate_left
 ·intro w'
  go_simp
  with_reducible rfl
 rotate_left
 ·simp only [Act.put, sQ0, sQ1, sQ2, i64_w]
  rfl
 refine pure_ (i := 1) (N := (some 109)) (v := ?_) (a' := ?_) #[tt,tt,ff,ff,ff,ff,ff,ff,ff,ff,ff,ff,ff,ff,ff,ff,ff,ff] rfl rfl (any_of HT_.out (by kernel_rfl)) (fun _ _ _ h => h) (Or.inl ⟨by rfl, ?_⟩) ?_ ?_
 rotate_left
 ·intro w'
  go_simp
  with_reducible rfl
 rotate_left
 ·simp only [Act.put, sQ0, sQ1, sQ2, i64_w]
  rfl
 refine pure_ (i := 2) (N := (some 110)) (v := ?_) (a' := ?_) #[tt,tt,tt,ff,ff,ff,ff,ff,ff,ff,ff,ff,ff,ff,ff,ff,ff,ff] rfl rfl (any_of HT_.out (by kernel_rfl)) (fun _ _ _ h => h) (Or.inl ⟨by rfl, ?_⟩) ?_ ?_
 rotate_left
 ·intro w'
  go_simp
  with_reducible rfl
 rotate_left
 ·simp only [Act.put, sQ0, sQ1, sQ2, i64_w]
  rfl
 refine pure_ (i := 3) (N := (some 111)) (v := ?_) (a' := ?_) #[tt,tt,tt,tt,ff,ff,ff,ff,ff,ff,ff,ff,ff,ff,ff,ff,ff,ff] rfl rfl (any_of HT_.out (by kernel_rfl)) (fun _ _ _ h => h) (Or.inl ⟨by rfl, ?_⟩) ?_ ?_
 rotate_left
 ·intro w'
  go_simp
  with_reducible rfl
 rotate_left
 ·simp only [Act.put, sQ0, sQ1, sQ2, i64_w]
  rfl
 refine pure_ (i := 5) (N := (some 113)) (v := ?_) (a' := ?_) #[tt,tt,tt,tt,ff,tt,ff,ff,ff,ff,ff,ff,ff,ff,ff,ff,ff,ff] rfl rfl (any_of HT_.out (by kernel_rfl)) (fun _ _ _ h => h) (Or.inl ⟨by rfl, ?_⟩) ?_ ?_
 rotate_left
 ·intro w'
  go_simp
  with_reducible rfl
 rotate_left
 ·simp only [Act.put, sQ0, sQ1, sQ2, i64_w]
  rfl
 refine pure_ (i := 7) (N := (some 115)) (v := ?_) (a' := ?_) #[tt,tt,tt,tt,ff,tt,ff,tt,ff,ff,ff,ff,ff,ff,ff,ff,ff,ff] rfl rfl (any_of HT_.out (by kernel_rfl)) (fun _ _ _ h => h) (Or.inl ⟨by rfl, ?_⟩) ?_ ?_
 rotate_left
 ·intro w'
  go_simp
  with_reducible rfl
 rotate_left
 ·simp only [Act.put, sQ0, sQ1, sQ2, i64_w]
  rfl
 refine pure_ (i := 8) (N := (some 116)) (v := ?_) (a' := ?_) #[tt,tt,tt,tt,ff,tt,ff,tt,tt,ff,ff,ff,ff,ff,ff,ff,ff,ff] rfl rfl (any_of HT_.out (by kernel_rfl)) (fun _ _ _ h => h) (Or.inl ⟨by rfl, ?_⟩) ?_ ?_
 rotate_left
 ·intro w'
  go_simp
  with_reducible rfl
 rotate_left
 ·simp only [Act.put, sQ0, sQ1, sQ2, i64_w]
  rfl
 refine pure_ (i := 10) (N := (some 118)) (v := ?_) (a' := ?_) #[tt,tt,tt,tt,ff,tt,ff,tt,tt,ff,tt,ff,ff,ff,ff,ff,ff,ff] rfl rfl (any_of HT_.out (by kernel_rfl)) (fun _ _ _ h => h) (Or.inl ⟨by rfl, ?_⟩) ?_ ?_
 rotate_left
 ·intro w'
  go_simp
  with_reducible rfl
 rotate_left
 ·simp only [Act.put, sQ0, sQ1, sQ2, i64_w]
  rfl
 refine take_ (i := 4) (N := (some 112)) (v := ?_) (a' := ?_) #[tt,tt,tt,tt,tt,tt,ff,tt,tt,ff,tt,ff,ff,ff,ff,ff,ff,ff] rfl rfl (take_ofW HT_.out HW_.out (by kernel_rfl)) (fun _ _ _ h => h) (Or.inl ⟨by rfl, ?_⟩) hHeld ?_ ?_
 rotate_left
 ·rintro w' ⟨s0, s1, s2⟩
  go_simp
  with_reducible rfl
 rotate_left
 ·simp only [Act.put, sQ0, sQ1, sQ2, i64_w]
  rfl
 refine take_ (i := 6) (N := (some 114)) (v := ?_) (a' := ?_) #[tt,tt,tt,tt,tt,tt,tt,tt,tt,ff,tt,ff,ff,ff,ff,ff,ff,ff] rfl rfl (take_ofW HT_.out HW_.out (by kernel_rfl)) (fun _ _ _ h => h) (Or.inl ⟨by rfl, ?_⟩) hHeld ?_ ?_
 rotate_left
 ·rintro w' ⟨s0, s1, s2⟩
  go_simp
  with_reducible rfl
 rotate_left
 ·simp only [Act.put, sQ0, sQ1, sQ2, i64_w]
  rfl
 refine take_ (i := 9) (N := (some 117)) (v := ?_) (a' := ?_) #[tt,tt,tt,tt,tt,tt,tt,tt,tt,tt,tt,ff,ff,ff,ff,ff,ff,ff] rfl rfl (take_ofW HT_.out HW_.out (by kernel_rfl)) (fun _ _ _ h => h) (Or.inl ⟨by rfl, ?_⟩) hHeld ?_ ?_
 rotate_left
 ·rintro w' ⟨s0, s1, s2⟩
  go_simp
  with_reducible rfl
 rotate_left
 ·simp only [Act.put, sQ0, sQ1, sQ2, i64_w]
  rfl
 refine take_ (i := 11) (N := (some 119)) (v := ?_) (a' := ?_) #[tt,tt,tt,tt,tt,tt,tt,tt,tt,tt,tt,tt,ff,ff,ff,ff,ff,ff] rfl rfl (take_ofW HT_.out HW_.out (by kernel_rfl)) (fun _ _ _ h => h) (Or.inl ⟨by rfl, ?_⟩) hHeld ?_ ?_
 rotate_left
 ·rintro w' ⟨s0, s1, s2⟩
  go_simp
  with_reducible rfl
 rotate_left
 ·simp only [Act.put, sQ0, sQ1, sQ2, i64_w]
  rfl
 refine pure_ (i := 12) (N := (some 120)) (v := ?_) (a' := ?_) #[tt,tt,tt,tt,tt,tt,tt,tt,tt,tt,tt,tt,tt,ff,ff,ff,ff,ff] rfl rfl (any_of HT_.out (by kernel_rfl)) (fun _ _ _ h => h) (Or.inl ⟨by rfl, ?_⟩) ?_ ?_
 rotate_left
 ·intro w'
  go_simp
  with_reducible rfl
 rotate_left
 ·simp only [Act.put, sQ0, sQ1, sQ2, i64_w]
  rfl
 refine one_ (i := 13) (N := (some 121)) #[tt,tt,tt,tt,tt,tt,tt,tt,tt,tt,tt,tt,tt,tt,ff,ff,ff,ff] rfl rfl (one_of HT_.out (by kernel_rfl)) (by decide) (fun K hK => ?_)
 refine value_ (by rfl) rfl (v := .slice (some ⟨w5.heap.size, 0, none⟩) 1 1) (w1 := w5.alloc (.cells (lfA ⟨e.nn, e.ng, i, e.wk, noEnd, e.t⟩) 99)) (by go_simp; rfl) ?_
 refine hK.out _ _ (HM5.out.alloc _).cells (fun hHeld => ?_)
 clear hK K
 refine norm_ (a' := ?_) ?_ ?_
 rotate_left
 ·show Act.put _ (some 121) _ = _
  simp only [Act.put, sQ0, sQ1, sQ2, i64_w]
  rfl
 refine one_ (i := 14) (N := (some 122)) #[tt,tt,tt,tt,tt,tt,tt,tt,tt,tt,tt,tt,tt,tt,tt,ff,ff,ff] rfl rfl (one_of HT_.out (by kernel_rfl)) (by decide) (fun K hK => ?_)
 refine step_lives (by rfl) _ _ (by rfl) HM5.out ⟨e.nn, e.ng, i, e.wk, noEnd, e.t⟩ (by rfl) (by rfl) HSL ?_
 intro gg cap6 w6 hp
 have HP := Aside0.mk hp
 clear hp
 refine hK.out _ _ HP.out.1 (fun hHeld => ?_)
 clear hK K
 refine norm_ (a' := ?_) ?_ ?_
 rotate_left
 ·show Act.put _ (some 122) _ = _
  simp only [Act.put, sQ0, sQ1, sQ2, i64_w]
  rfl
 refine pure_ (i := 15) (N := (some 123)) (v := ?_) (a' := ?_) #[tt,tt,tt,tt,tt,tt,tt,tt,tt,tt,tt,tt,tt,tt,tt,tt,ff,ff] rfl rfl (any_of HT_.out (by kernel_rfl)) (fun _ _ _ h => h) (Or.inl ⟨by rfl, ?_⟩) ?_ ?_
 rotate_left
 ·intro w'
  go_simp
  with_reducible rfl
 rotate_left
 ·simp only [Act.put, sQ0, sQ1, sQ2, i64_w]
  rfl
 refine pure_ (i := 16) (N := (some 124)) (v := ?_) (a' := ?_) #[tt,tt,tt,tt,tt,tt,tt,tt,tt,tt,tt,tt,tt,tt,tt,tt,tt,ff] rfl rfl (any_of HT_.out (by kernel_rfl)) (fun _ _ _ h => h) (Or.inl ⟨by rfl, ?_⟩) ?_ ?_
 rotate_left
 ·intro w'
  go_simp
  with_reducible rfl
 rotate_left
 ·simp only [Act.put, sQ0, sQ1, sQ2, i64_w]
  rfl
 refine last_ (i := 17) (N := none) #[tt,tt,tt,tt,tt,tt,tt,tt,tt,tt,tt,tt,tt,tt,tt,tt,tt,tt] rfl rfl (one_of HT_.out (by kernel_rfl)) (by decide) (fun K hK => ?_)
 refine skip_ (by rfl) rfl (w1 := w6.setCell ⟨b, 1, none⟩ (.slice (some ⟨gg, 0, none⟩) (s.lives.length + 1) cap6)) (by have q1 := hHeld.1 1; have q2 := hHeld.2.2 1; go_simp) ?_
 refine hK.out _ _ ?_
 clear hK K
 refine done_ (done_of HT_.out (by kernel_rfl)) ?_
 go_wp2
 go_end0
 have hP := HP.out.2
 try simp only [List.length_set] at hP
 exact ⟨rfl, _, by rw [HF.out]; exact hP.st, hP.fr⟩
theorem turn_start_no {B b n m1 m2 : Nat} {s : Story} {vl vv vc : Value} (i : Nat) (e : Ev) (w : World) (hB : StIs w B b n s vl vv vc m1 m2) (hw : ∃ kl, keyOf Try.prog 34 (haV e.h) = some kl) (hw2 : ∃ kl, keyOf Try.prog 34 (haV e.new) = some kl) (hn : n ≤ 1000000) (hll : s.lives.length ≤ 1000000) (hk : e.k = 3) (ho : e.op = 1) (he : e.er ≠ 0) :
  Calls Try.prog 84 #[.pointer (some ⟨b, 0, none⟩), .int .i64 (i : Int), .agg (evA e)] w (TurnPost B b (n + 1) (turnF s i e) vl vc vv m1 m2 w) := by
 have hu97 := Try.underlying97
 have hu54 := Try.underlying54
 have hu34 := Try.underlying34
 have hu99 := Try.underlying99
 have HF1 := Aside0.mk (show turn1 s i e = s from turn1_no (by rintro (q | q | q) <;> omega))
 have HF := Aside0.mk (show turnF s i e = s by unfold turnF; rw [HF1.out]; exact turn2_no (by omega))
 have qk4 : (e.k == 4) = false := beq_eq_false_iff_ne.2 (by omega)
 have rk4 : (e.k != 4) = true := bne_iff_ne.2 (by omega)
 have qk3 : (e.k == 3) = true := beq_iff_eq.2 (by omega)
 have rk3 : (e.k != 3) = false := bne_eq_false_iff_eq.2 (by omega)
 have qop2 : (e.op == 2) = false := beq_eq_false_iff_ne.2 (by omega)
 have rop2 : (e.op != 2) = true := bne_iff_ne.2 (by omega)
 have qop3 : (e.op == 3) = false := beq_eq_false_iff_ne.2 (by omega)
 have rop3 : (e.op != 3) = true := bne_iff_ne.2 (by omega)
 have qop1 : (e.op == 1) = true := beq_iff_eq.2 (by omega)
 have rop1 : (e.op != 1) = false := bne_eq_false_iff_eq.2 (by omega)
 have qer0 : (e.er == 0) = false := beq_eq_false_iff_ne.2 (by omega)
 have rer0 : (e.er != 0) = true := bne_iff_ne.2 (by omega)
 have hl0 := fun q => (Mid.start hB e).look hw ((w.alloc (.cells (evA e) 54)).drewN q) rfl
 obtain ⟨z0, hz0⟩ : ∃ z0, ((s.at_ (e.hn, e.hg)).map (fun j => (j : Int))).getD 0 = z0 := ⟨_, rfl⟩
 obtain ⟨z1, hz1⟩ : ∃ z1, (s.at_ (e.hn, e.hg)).isSome = z1 := ⟨_, rfl⟩
 rw [hz0, hz1] at hl0
 clear hz0 hz1
 have HB := Aside0.mk hB
 have hlt := hB.lt
 have hc := fun i => hB.cell i
 have HW2 := Aside0.mk hw2
 have HN := Aside0.mk hn
 have HLL := Aside0.mk hll
 clear hB hw hw2 hn hll hk ho he
 go_enter Try.func84, Try.ntmps84
 go_wp2
 go_quiet (fail)
 go_wp2
 all_goals
  go_end0
  exact ⟨rfl, _, by rw [HF.out]; exact ((Mid.start HB.out e).drewN _).st.up (by omega), ((Mid.start HB.out e).drewN _).fr⟩
theorem turn_other {B b n m1 m2 : Nat} {s : Story} {vl vv vc : Value} (i : Nat) (e : Ev) (w : World) (hB : StIs w B b n s vl vv vc m1 m2) (hw : ∃ kl, keyOf Try.prog 34 (haV e.h) = some kl) (hw2 : ∃ kl, keyOf Try.prog 34 (haV e.new) = some kl) (hn : n ≤ 1000000) (hll : s.lives.length ≤ 1000000) (hk : e.k = 3) (ho : e.op ≠ 1 ∧ e.op ≠ 2 ∧ e.op ≠ 3) :
  Calls Try.prog 84 #[.pointer (some ⟨b, 0, none⟩), .int .i64 (i : Int), .agg (evA e)] w (TurnPost B b (n + 1) (turnF s i e) vl vc vv m1 m2 w) := by
 have hu97 := Try.underlying97
 have hu54 := Try.underlying54
 have hu34 := Try.underlying34
 have hu99 := Try.underlying99
 have HF1 := Aside0.mk (show turn1 s i e = s from turn1_no (by rintro (q | q | q) <;> omega))
 have HF := Aside0.mk (show turnF s i e = s by unfold turnF; rw [HF1.out]; exact turn2_no (by omega))
 have qk4 : (e.k == 4) = false := beq_eq_false_iff_ne.2 (by omega)
 have rk4 : (e.k != 4) = true := bne_iff_ne.2 (by omega)
 have qk3 : (e.k == 3) = true := beq_iff_eq.2 (by omega)
 have rk3 : (e.k != 3) = false := bne_eq_false_iff_eq.2 (by omega)
 have qop2 : (e.op == 2) = false := beq_eq_false_iff_ne.2 (by omega)
 have rop2 : (e.op != 2) = true := bne_iff_ne.2 (by omega)
 have qop3 : (e.op == 3) = false := beq_eq_false_iff_ne.2 (by omega)
 have rop3 : (e.op != 3) = true := bne_iff_ne.2 (by omega)
 have qop1 : (e.op == 1) = false := beq_eq_false_iff_ne.2 (by omega)
 have rop1 : (e.op != 1) = true := bne_iff_ne.2 (by omega)
 have hl0 := fun q => (Mid.start hB e).look hw ((w.alloc (.cells (evA e) 54)).drewN q) rfl
 obtain ⟨z0, hz0⟩ : ∃ z0, ((s.at_ (e.hn, e.hg)).map (fun j => (j : Int))).getD 0 = z0 := ⟨_, rfl⟩
 obtain ⟨z1, hz1⟩ : ∃ z1, (s.at_ (e.hn, e.hg)).isSome = z1 := ⟨_, rfl⟩
 rw [hz0, hz1] at hl0
 clear hz0 hz1
 have HB := Aside0.mk hB
 have hlt := hB.lt
 have hc := fun i => hB.cell i
 have HW2 := Aside0.mk hw2
 have HN := Aside0.mk hn
 have HLL := Aside0.mk hll
 clear hB hw hw2 hn hll hk ho
 go_enter Try.func84, Try.ntmps84
 go_wp2
 go_quiet (fail)
 go_wp2
 all_goals
  go_end0
  exact ⟨rfl, _, by rw [HF.out]; exact ((Mid.start HB.out e).drewN _).st.up (by omega), ((Mid.start HB.out e).drewN _).fr⟩
theorem turn_any {B b n m1 m2 : Nat} {s : Story} {vl vv vc : Value} (i : Nat) (e : Ev) (w : World) (hB : StIs w B b n s vl vv vc m1 m2) (hw : ∃ kl, keyOf Try.prog 34 (haV e.h) = some kl) (hw2 : ∃ kl, keyOf Try.prog 34 (haV e.new) = some kl) (hn : n ≤ 1000000) (hll : s.lives.length ≤ 1000000)
  (hv : ∀ h j, s.at_ h = some j → ∃ x, s.lives[j]? = some x) (hk : e.k = 3 ∨ e.k = 4) :
  Calls Try.prog 84 #[.pointer (some ⟨b, 0, none⟩), .int .i64 (i : Int), .agg (evA e)] w (TurnPost B b (n + 1) (turnF s i e) vl vc vv m1 m2 w) := by
 have two : ∀ (P : Prop), (s.at_ e.h = none → P) → (∀ k x, s.at_ e.h = some k → s.lives[k]? = some x → x.til > i → P) → (∀ k x, s.at_ e.h = some k → s.lives[k]? = some x → ¬ x.til > i → P) → P := fun P h1 h2 h3 => by
  cases ha : s.at_ e.h with
  | none => exact h1 ha
  | some k =>
   obtain ⟨x, hx⟩ := hv _ k ha
   by_cases ht : x.til > i
   ·exact h2 k x ha hx ht
   ·exact h3 k x ha hx ht
 rcases hk with hk | hk
 ·by_cases o2 : e.op = 2
  ·cases hy : e.y with
   | false => exact turn_cancel_no i e w hB hw hw2 hn hll hk o2 hy
   | true => exact two _ (fun ha => turn_cancel_none i e w hB hw hw2 hn hll hk o2 hy ha) (fun k x ha hx ht => turn_cancel_set i e w hB hw hw2 hn hll hk o2 hy k x ha hx ht) (fun k x ha hx ht => turn_cancel_keep i e w hB hw hw2 hn hll hk o2 hy k x ha hx ht)
  by_cases o3 : e.op = 3
  ·by_cases he : e.er = 0
   ·cases hj : s.at_ e.new with
    | none => exact two _ (fun ha => turn_rearm_none_new i e w hB hw hw2 hn hll hk o3 he ha hj) (fun k x ha hx ht => turn_rearm_set_new i e w hB hw hw2 hn hll hk o3 he k x ha hx ht hj) (fun k x ha hx ht => turn_rearm_keep_new i e w hB hw hw2 hn hll hk o3 he k x ha hx ht hj)
    | some j => exact two _ (fun ha => turn_rearm_none_old i e w hB hw hw2 hn hll hk o3 he ha j hj) (fun k x ha hx ht => turn_rearm_set_old i e w hB hw hw2 hn hll hk o3 he k x ha hx ht j hj) (fun k x ha hx ht => turn_rearm_keep_old i e w hB hw hw2 hn hll hk o3 he k x ha hx ht j hj)
   ·exact turn_rearm_no i e w hB hw hw2 hn hll hk o3 he
  by_cases o1 : e.op = 1
  ·by_cases he : e.er = 0
   ·cases hj : s.at_ e.new with
    | none => exact turn_start_new i e w hB hw hw2 hn hll hk o1 he hj
    | some j => exact turn_start_old i e w hB hw hw2 hn hll hk o1 he j hj
   ·exact turn_start_no i e w hB hw hw2 hn hll hk o1 he
  exact turn_other i e w hB hw hw2 hn hll hk ⟨o1, o2, o3⟩
 ·exact two _ (fun ha => turn_fire_none i e w hB hw hw2 hn hll hk ha) (fun k x ha hx ht => turn_fire_set i e w hB hw hw2 hn hll hk k x ha hx ht) (fun k x ha hx ht => turn_fire_keep i e w hB hw hw2 hn hll hk k x ha hx ht)
end Go.Proofs.Ythniclbmpeklmaa.Au
end
section
namespace Go.Proofs.Ythniclbmpeklmaa.Au
open Go.RowKit Go.Maps Go.Proofs.YthniclbmpeklmaaW.PrintWords Go.Proofs.YthniclbmpeklmaaW.PrintLast Go.Proofs.YthniclbmpeklmaaW.PrintMore Go.Proofs.Ythniclbmpeklmaa.Mp
set_option linter.unusedVariables false
set_option linter.unusedSimpArgs false
theorem litsH (d : Nat) (x y : Int) (hx : (Lit.int .i64 x).wf = true) (hy : (Lit.int .i64 y).wf = true) : Try.prog.keyLits (d + 2) 34 [.int .i64 x, .int .i64 y] = some [.int .i64 x, .int .i64 y] := by
 have h34 := Try.underlying34
 have h3 := Try.underlying3
 have c34 : Try.prog.cellsOf 34 = 2 := by kernel_rfl
 have c3 : Try.prog.cellsOf 3 = 1 := by kernel_rfl
 simp [Program.keyLits, h34, h3, c34, c3, hx, hy]
theorem keyH (x y : Int) (hx : (Lit.int .i64 x).wf = true) (hy : (Lit.int .i64 y).wf = true) : ∃ kl, keyOf Try.prog 34 (haV (x, y)) = some kl := by
 have h34 := Try.underlying34
 have c34 : Try.prog.cellsOf 34 = 2 := by kernel_rfl
 have hk : Try.prog.keyType 34 = true := by kernel_rfl
 have hs : Try.prog.types.size = (Try.prog.types.size - 1) + 1 := by kernel_rfl
 have hf : (haV (x, y)).formed Try.prog 34 = true := by simp [Value.formed, h34, c34]
 refine ⟨.string (keyBytes [.int .i64 x, .int .i64 y]), ?_⟩
 unfold keyOf
 rw [h34]
 simp only [hk, hf, Bool.and_self, if_true]
 rw [show (haV (x, y)).cells.toList = [.int .i64 x, .int .i64 y] from rfl, hs, litsH _ x y hx hy]
 rfl
section
variable {α : Type} {W : World} {B T k : Nat} {A : α → Array Value} {v : Value} {l : List α} {o : Oper} {a : Act} {K : Act → World → Prop} {Q : Exit → Act → World → Prop} {ops : Array Oper} {rest : List Oper}
theorem RowIs.append_wp (S : Nat) (bytes : Nat) (z : Value) (p q : Operand) (hS : Try.prog.underlying S = some (.slice T)) (hinfo : (Try.prog.info? T).map (fun i => (i.zero, i.size, i.bytes)) = some (some z, k, bytes)) (hz : z.cells.size = k) (hk : 0 < k)
  (ho : o.op = .call { callee := .builtin .append, args := #[p, q], argTypes := #[S, S] }) (h : RowIs W B T k A v l) (x : α) (hx : (A x).size = k) (h1 : ∀ u ∈ (A x).toList, u.oneCell' = true) (hp : a.eval p = v) (hq : a.eval q = .slice (some ⟨W.heap.size, 0, none⟩) 1 1)
  (hl : l.length ≤ 1000000) (hb : bytes ≤ 1000) (hB : B ≤ W.heap.size)
  (hK : ∀ g cap w6, RowIs w6 B T k A (.slice (some ⟨g, 0, none⟩) (l.length + 1) cap) (l ++ [x]) → (W.alloc (.cells (A x) T)).grownBy w6 v.ownBlock → (v.ownBlock = some g ∨ g = W.heap.size + 1) → K (a.put o.dst (.slice (some ⟨g, 0, none⟩) (l.length + 1) cap)) w6) :
  o.wp Try.prog a (W.alloc (.cells (A x) T)) K Q := by
 obtain ⟨i0, hi0, hz0, hz1, hz2⟩ := info_parts hinfo
 have hr : (W.alloc (.cells (A x) T)).ownsRow B T k v l.length (l.flatMap fun x => (A x).toList) := pw_own_below h (below_alloc (Below.refl _ _) _)
 have hbb : (l.length + 1) * bytes ≤ 1000001 * 1000 := Nat.mul_le_mul (by omega) hb
 refine wp_append_lies _ p q _ ho B T i0 z k bytes hS hi0 hz0 hz1 hz2 hz hk v l.length _ hp hr ⟨W.heap.size, 0, none⟩ 1 1 (A x).toList hq (by simp [hx]) (World.news_of_block (cs := A x) (t := T) (fr := (0, 0)) (heap_alloc_new W _)) h1 (by omega) (by unfold maxLen; omega) (by omega) (by simp; omega) (W.heap.size + 1) (by simp) ?_
 intro g cap w6 hown hgrow hat hlt
 refine hK g cap w6 ?_ hgrow hat
 unfold RowIs
 rw [List.length_append, List.flatMap_append]
 simpa using hown
theorem RowIs.append_wpl (hgd : o.guard = none) (S : Nat) (bytes : Nat) (z : Value) (p q : Operand) (hS : Try.prog.underlying S = some (.slice T)) (hinfo : (Try.prog.info? T).map (fun i => (i.zero, i.size, i.bytes)) = some (some z, k, bytes)) (hz : z.cells.size = k) (hk : 0 < k)
  (ho : o.op = .call { callee := .builtin .append, args := #[p, q], argTypes := #[S, S] }) (h : RowIs W B T k A v l) (x : α) (hx : (A x).size = k) (h1 : ∀ u ∈ (A x).toList, u.oneCell' = true) (hp : a.eval p = v) (hq : a.eval q = .slice (some ⟨W.heap.size, 0, none⟩) 1 1)
  (hl : l.length ≤ 1000000) (hb : bytes ≤ 1000) (hB : B ≤ W.heap.size)
  (hK : ∀ g cap w6, RowIs w6 B T k A (.slice (some ⟨g, 0, none⟩) (l.length + 1) cap) (l ++ [x]) → (W.alloc (.cells (A x) T)).grownBy w6 v.ownBlock → (v.ownBlock = some g ∨ g = W.heap.size + 1) → wpList Try.prog ops Q rest (a.put o.dst (.slice (some ⟨g, 0, none⟩) (l.length + 1) cap)) w6) :
  wpList Try.prog ops Q (o :: rest) a (W.alloc (.cells (A x) T)) :=
 wpList_plain hgd fun _ hK' => RowIs.append_wp S bytes z p q hS hinfo hz hk ho h x hx h1 hp hq hl hb hB fun g cap w6 h2 h3 h4 => hK' _ _ (hK g cap w6 h2 h3 h4)
theorem if_wp {P : Program} {E : Prop} (hgd : o.guard = none) (h : o.wp P a W K Q) : if Region.wanted o (yielded ops a.tmps) = true then Oper.wp P o a W K Q else E := by
 rw [if_pos (by simp [Region.wanted, hgd])]
 exact h
end
section
variable {w W W1 : World} {B b n m1 m2 : Nat} {s : Story} {vl vv vc : Value}
theorem StIs.others {T k : Nat} {β : Type} {A : β → Array Value} {v : Value} {l : List β} (h : StIs W B b n s vl vv vc m1 m2) (r : RowIs W B T k A v l) (hg : W.grownBy W1 v.ownBlock) (hT : 97 ≠ T) :
  W1.heap[b]? = some (.cells (stA vl vv vc m1 m2) 97 (0, 0)) ∧ (54 ≠ T → RowIs W1 B 54 12 evA vl s.l) ∧ (99 ≠ T → RowIs W1 B 99 6 lfA vv s.lives) ∧ (103 ≠ T → RowIs W1 B 103 15 clA vc s.calls) ∧
   (∃ z, z ≤ n ∧ MapIs haV Try.prog 34 W1 m1 z (nV s.at_)) ∧ (∃ z, z ≤ n ∧ MapIs (Value.int .i64) Try.prog 3 W1 m2 z (nV s.opn)) := by
 obtain ⟨z1, hz1, hm1⟩ := h.ma
 obtain ⟨z2, hz2, hm2⟩ := h.mo
 obtain ⟨_, _, q1⟩ := hm1.block
 obtain ⟨_, _, q2⟩ := hm2.block
 have ne_map : ∀ (g : Nat) es cl, W.heap[g]? = some (.map es cl) → some g ≠ v.ownBlock := fun g es cl hq q => by
  obtain ⟨cur, hc⟩ := r.own q.symm
  exact map_ne hc hq rfl
 have ne_typ : ∀ (g t : Nat) cs, W.heap[g]? = some (.cells cs t (0, 0)) → t ≠ T → some g ≠ v.ownBlock := fun g t cs hq ht q => by
  obtain ⟨cur, hc⟩ := r.own q.symm
  exact types_ne hq hc ht rfl
 have row : ∀ {α : Type} {T' k : Nat} {A : α → Array Value} {v : Value} {l : List α}, RowIs W B T' k A v l → T' ≠ T → RowIs W1 B T' k A v l := by
  intro α T' k A v' l r' ht
  refine r'.kept hg ?_
  cases hv : v'.ownBlock with
  | none => exact .inl rfl
  | some g => exact .inr (fun q => by obtain ⟨cur, hc⟩ := r'.own hv; exact ne_typ g _ _ hc ht q)
 exact ⟨blk_grown h.blk hg (ne_typ _ _ _ h.blk hT), row h.rl, row h.rv, row h.rc, ⟨z1, hz1, hm1.move (hg.block m1 hm1.lt (ne_map _ _ _ q1))⟩, ⟨z2, hz2, hm2.move (hg.block m2 hm2.lt (ne_map _ _ _ q2))⟩⟩
theorem head_set {j : Nat} {u : Value} {cs : Array Value} (hb : W.heap[b]? = some (.cells cs 97 (0, 0))) {T k : Nat} {α : Type} {A : α → Array Value} {v : Value} {l : List α} (r : RowIs W B T k A v l) (ht : 97 ≠ T) : RowIs (W.setCell ⟨b, j, none⟩ u) B T k A v l :=
 r.far (fun hv => by obtain ⟨cur', hg'⟩ := r.own hv; exact types_ne hb hg' ht rfl) u
theorem head_map {j : Nat} {u : Value} {cs : Array Value} (hb : W.heap[b]? = some (.cells cs 97 (0, 0))) {κ : Type} [DecidableEq κ] {c : κ → Value} {k m z : Nat} {f : κ → Option Value} (h : MapIs c Try.prog k W m z f) : MapIs c Try.prog k (W.setCell ⟨b, j, none⟩ u) m z f := by
 obtain ⟨_, _, q⟩ := h.block
 exact h.move (Below.heap_setCell _ _ _ _ (map_ne hb q).symm)
theorem StIs.app_l {x : Ev} {v' : Value} (h : StIs W B b n s vl vv vc m1 m2) (hown : RowIs W1 B 54 12 evA v' (s.l ++ [x])) (hg : W.grownBy W1 vl.ownBlock) :
  W1.heap[b]? = some (.cells (stA vl vv vc m1 m2) 97 (0, 0)) ∧ StIs (W1.setCell ⟨b, 0, none⟩ v') B b n { s with l := s.l ++ [x] } v' vv vc m1 m2 := by
 obtain ⟨hb, _, h2, h3, ⟨z1, hz1, hm1⟩, ⟨z2, hz2, hm2⟩⟩ := h.others h.rl hg (by decide)
 exact ⟨hb, ⟨blk_set hb 0 v', head_set hb hown (by decide), head_set hb (h2 (by decide)) (by decide), head_set hb (h3 (by decide)) (by decide), ⟨z1, hz1, head_map hb hm1⟩, ⟨z2, hz2, head_map hb hm2⟩, h.hb, h.h1, h.h2, h.m12⟩⟩
theorem StIs.app_c {x : Cl} {v' : Value} (h : StIs W B b n s vl vv vc m1 m2) (hown : RowIs W1 B 103 15 clA v' (s.calls ++ [x])) (hg : W.grownBy W1 vc.ownBlock) :
  W1.heap[b]? = some (.cells (stA vl vv vc m1 m2) 97 (0, 0)) ∧ StIs (W1.setCell ⟨b, 3, none⟩ v') B b n { s with calls := s.calls ++ [x] } vl vv v' m1 m2 := by
 obtain ⟨hb, h1, h2, _, ⟨z1, hz1, hm1⟩, ⟨z2, hz2, hm2⟩⟩ := h.others h.rc hg (by decide)
 exact ⟨hb, ⟨blk_set hb 3 v', head_set hb (h1 (by decide)) (by decide), head_set hb (h2 (by decide)) (by decide), head_set hb hown (by decide), ⟨z1, hz1, head_map hb hm1⟩, ⟨z2, hz2, head_map hb hm2⟩, h.hb, h.h1, h.h2, h.m12⟩⟩
theorem StIs.sto_o {f' : Int → Option Nat} {z' : Nat} (h : StIs W B b n s vl vv vc m1 m2) (hm : MapIs (Value.int .i64) Try.prog 3 W1 m2 z' (nV f')) (hz : z' ≤ n + 1) (hg : W.grownBy W1 (some m2)) : StIs W1 B b (n + 1) { s with opn := f' } vl vv vc m1 m2 := by
 obtain ⟨z1, hz1, hm1⟩ := h.ma
 obtain ⟨z2, hz2, hm2⟩ := h.mo
 obtain ⟨_, _, q2⟩ := hm2.block
 have row : ∀ {α : Type} {T k : Nat} {A : α → Array Value} {v : Value} {l : List α}, RowIs W B T k A v l → RowIs W1 B T k A v l := by
  intro α T k A v l r
  refine r.kept hg ?_
  cases hv : v.ownBlock with
  | none => exact .inl rfl
  | some g => exact .inr (fun q => by obtain ⟨cur, hc⟩ := r.own hv; exact map_ne hc q2 (Option.some.inj q))
 exact ⟨blk_grown h.blk hg (fun q => map_ne h.blk q2 (Option.some.inj q)), row h.rl, row h.rv, row h.rc, ⟨z1, by omega, hm1.move (hg.block m1 hm1.lt (fun q => h.m12 (Option.some.inj q)))⟩, ⟨z', hz, hm⟩, h.hb, h.h1, h.h2, h.m12⟩
theorem StIs.put_c {g cap k : Nat} {q : Cl} (i : Int) (h : StIs W B b n s vl vv (.slice (some ⟨g, 0, none⟩) s.calls.length cap) m1 m2) (hq : s.calls[k]? = some q) :
  StIs (W.setCell ⟨g, k * 15 + 14, none⟩ (.int .i64 i)) B b n { s with calls := s.calls.set k { q with en := i } } vl vv (.slice (some ⟨g, 0, none⟩) s.calls.length cap) m1 m2 := by
 obtain ⟨cur, hg⟩ := h.rc.own (show (Value.slice (some ⟨g, 0, none⟩) s.calls.length cap).ownBlock = some g from rfl)
 obtain ⟨z1, hz1, hm1⟩ := h.ma
 obtain ⟨z2, hz2, hm2⟩ := h.mo
 obtain ⟨_, _, q1⟩ := hm1.block
 obtain ⟨_, _, q2⟩ := hm2.block
 have row : ∀ {α : Type} {T k : Nat} {A : α → Array Value} {v : Value} {l : List α}, RowIs W B T k A v l → 103 ≠ T → v.ownBlock ≠ some g := fun r ht hv => by
  obtain ⟨cur', hg'⟩ := r.own hv
  exact types_ne hg hg' ht rfl
 have hput := h.rc.put (fun _ => rfl) (i := k) (j := 14) (x' := { q with en := i }) (u := .int .i64 i) hq (by decide) rfl
 rw [List.length_set] at hput
 exact ⟨blk_far h.blk (types_ne hg h.blk (by decide)).symm _, h.rl.far (row h.rl (by decide)) _, h.rv.far (row h.rv (by decide)) _, hput, ⟨z1, hz1, hm1.move (Below.heap_setCell _ _ _ _ (map_ne hg q1).symm)⟩, ⟨z2, hz2, hm2.move (Below.heap_setCell _ _ _ _ (map_ne hg q2).symm)⟩, h.hb, h.h1, h.h2, h.m12⟩
end
theorem ev_info : (Try.prog.info? 54).map (fun i => (i.zero, i.size, i.bytes)) = some (some (.agg (evA zeroE)), 12, 96) := by kernel_rfl
theorem cl_info : (Try.prog.info? 103).map (fun i => (i.zero, i.size, i.bytes)) = some (some (.agg (clA ⟨zeroE, 0, 0, 0⟩)), 15, 120) := by kernel_rfl
theorem look_o {w : World} {m2 z : Nat} {f : Int → Option Nat} (h : MapIs (Value.int .i64) Try.prog 3 w m2 z (nV f)) {x : Int} (hx : (Lit.int .i64 x).wf = true) (W : World) (hb : W.heap[m2]? = w.heap[m2]?) :
  (Instr.lookup 95 (.map (some m2)) (.int .i64 x) true).run Try.prog W = .ok (.tuple #[.int .i64 (((f x).map (fun j => (j : Int))).getD 0), .bool (f x).isSome]) W := by
 have := (h.move hb).look_ok lawI Try.underlying95 (zeroI W) (x := x) (keyOf_int_mk Try.underlying3 hx)
 rw [this]
 unfold nV
 cases f x <;> rfl
theorem nV_updW (f : Int → Option Nat) (x : Int) (j : Nat) : (fun l => if l = x then some (.int .i64 (j : Int)) else nV f l) = nV (updW f x j) := by
 funext l
 unfold nV updW
 by_cases e : l = x <;> simp [e]
end Go.Proofs.Ythniclbmpeklmaa.Au
end
section
namespace Go.Proofs.Ythniclbmpeklmaa.Ev
open Go.RowKit Go.Proofs.YthniclbmpeklmaaW.PrintWords Go.Proofs.YthniclbmpeklmaaW.PrintLast Go.Proofs.YthniclbmpeklmaaW.PrintMore
set_option linter.unusedVariables false
set_option linter.unusedSimpArgs false
abbrev evC (k wk op hn hg nn ng t a u : Int) (y : Bool) (er : Int) : Array Value := #[.int .i64 k, .int .i64 wk, .int .i64 op, .int .i64 hn, .int .i64 hg, .int .i64 nn, .int .i64 ng, .int .i64 t, .int .i64 a, .int .i64 u, .bool y, .int .i64 er]
end Go.Proofs.Ythniclbmpeklmaa.Ev
end
section
namespace Go.Proofs.Ythniclbmpeklmaa.Ev
open Go.RowKit Go.Proofs.YthniclbmpeklmaaW.PrintWords Go.Proofs.YthniclbmpeklmaaW.PrintLast Go.Proofs.YthniclbmpeklmaaW.PrintMore
set_option linter.unusedVariables false
set_option linter.unusedSimpArgs false
def in3 (x y z n : Int) : Bool := x == n || (y == n || z == n)
def made (op : Int) : Bool := op == 1 || op == 3
def hasN (k op er : Int) : Bool := (k == 3 || k == 5) && made op && er == 0
def hasT (k op er : Int) : Bool := k == 1 || k == 4 || k == 2 && made op || k == 3 && made op && er == 0 || k == 5 && (op == 6 || op == 7)
def hasA (k op : Int) : Bool := k == 2 && (op == 1 || op == 4)
def hasU (k op : Int) : Bool := k == 4 || k == 2 && op == 1
def hasY (k op : Int) : Bool := (k == 3 || k == 5) && op == 2
def hasE (k op : Int) : Bool := (k == 3 || k == 5) && in3 1 3 4 op
def hasH (k op : Int) : Bool := k == 4 || ((k == 2 && in3 2 3 4 op) || (k == 3 && in3 2 3 4 op))
end Go.Proofs.Ythniclbmpeklmaa.Ev
end
section
namespace Go.Proofs.Ythniclbmpeklmaa.Ev
open Go.RowKit Go.Proofs.YthniclbmpeklmaaW.PrintWords Go.Proofs.YthniclbmpeklmaaW.PrintLast Go.Proofs.YthniclbmpeklmaaW.PrintMore
set_option linter.unusedVariables false
set_option linter.unusedSimpArgs false
def emptyB (k op hn hg nn ng t a u : Int) (y : Bool) (er : Int) : Bool :=
 !(!hasH k op && !(hn == 0 && hg == 0) || !hasN k op er && !(nn == 0 && ng == 0) || !hasT k op er && t != 0 || !hasA k op && a != 0) && ((hasU k op || u == 0) && (hasY k op || !y) && (hasE k op || er == 0))
end Go.Proofs.Ythniclbmpeklmaa.Ev
end
section
namespace Go.Proofs.Ythniclbmpeklmaa.Ev
open Go.RowKit Go.Proofs.YthniclbmpeklmaaW.PrintWords Go.Proofs.YthniclbmpeklmaaW.PrintLast Go.Proofs.YthniclbmpeklmaaW.PrintMore
set_option linter.unusedVariables false
set_option linter.unusedSimpArgs false
def kindB (k wk op : Int) : Bool :=
 (k == 1 && (op == 0 && wk == 0)) || (k == 4 && op == 0) || ((k == 2 || k == 5) && (decide (1 ≤ op) && decide (op ≤ 7))) || (k == 3 && (decide (1 ≤ op) && decide (op ≤ 4)))
def evRight (k wk op hn hg nn ng t a u : Int) (y : Bool) (er : Int) : Bool :=
 kindB k wk op && emptyB k op hn hg nn ng t a u y er && decide (0 ≤ wk) && decide (0 ≤ er) &&
  (k == 2 || ((k == 3 || (decide (0 ≤ hn) && decide (0 ≤ hg))) && (decide (0 ≤ nn) && decide (0 ≤ ng) && decide (0 ≤ a) && decide (0 ≤ u) && (if k = 5 then decide (-1 ≤ t) else decide (0 ≤ t)))))
end Go.Proofs.Ythniclbmpeklmaa.Ev
end
section
namespace Go.Proofs.Ythniclbmpeklmaa.Ev
open Go.RowKit Go.Proofs.YthniclbmpeklmaaW.PrintWords Go.Proofs.YthniclbmpeklmaaW.PrintLast Go.Proofs.YthniclbmpeklmaaW.PrintMore
set_option linter.unusedVariables false
set_option linter.unusedSimpArgs false
theorem pick_yes (L : List Int) (op : Int) (b : Nat) (w : World) (hL : L.length ≤ 100) (hc : ∀ j, j < L.length → w.cell? ⟨b, j, none⟩ = some (.int .i64 (L.getD j 0))) (h1 : 1 ≤ op) (h2 : op < L.length) :
  Calls Try.prog 106 #[.slice (some ⟨b, 0, none⟩) L.length L.length, .int .i64 op] w fun e w' => e = .returned (.tuple #[.int .i64 (L.getD op.toNat 0), .bool true]) ∧ w' = w := by
 have c0 := hc op.toNat (by omega)
 have d1 : decide (op < 1) = false := by simp; omega
 have d2 : decide ((L.length : Int) ≤ op) = false := by simp; omega
 obtain ⟨x, hx⟩ : ∃ x, x = L.getD op.toNat 0 := ⟨_, rfl⟩
 rw [← hx] at c0 ⊢
 clear hc hx
 go_enter Try.func106, Try.ntmps106
 go_wp2
 go_ret2
 exact ⟨rfl, rfl⟩
theorem pick_no (L : List Int) (op : Int) (b : Nat) (w : World) (hL : L.length ≤ 100) (h : op < 1 ∨ (L.length : Int) ≤ op) :
  Calls Try.prog 106 #[.slice (some ⟨b, 0, none⟩) L.length L.length, .int .i64 op] w fun e w' => e = .returned (.tuple #[.int .i64 0, .bool false]) ∧ w' = w := by
 by_cases h1 : op < 1
 ·have d1 : decide (op < 1) = true := decide_eq_true h1
  go_enter Try.func106, Try.ntmps106
  go_wp2
  go_ret2
  exact ⟨rfl, rfl⟩
 ·have d1 : decide (op < 1) = false := decide_eq_false h1
  have d2 : decide ((L.length : Int) ≤ op) = true := by simp; omega
  clear h h1
  go_enter Try.func106, Try.ntmps106
  go_wp2
  go_ret2
  exact ⟨rfl, rfl⟩
def pickL (L : List Int) (op : Int) : Int × Bool := if op < 1 ∨ (L.length : Int) ≤ op then (0, false) else (L.getD op.toNat 0, true)
theorem cells_lit (W : World) (L : List Int) (C : Array Value) (t : TypeId) (hC : C = (L.map (Value.int .i64)).toArray) (b : Nat) (hb : b = W.heap.size) : ∀ j, j < L.length → (W.alloc (.cells C t)).cell? ⟨b, j, none⟩ = some (.int .i64 (L.getD j 0)) := by
 subst hC hb
 intro j hj
 rw [World.cell?_alloc_new]
 simp [List.getD_eq_getElem?_getD, hj]
theorem pick_any (L : List Int) (n : Nat) (hn : L.length = n) (op : Int) (b : Nat) (w : World) (hL : L.length ≤ 100) (hc : ∀ j, j < L.length → w.cell? ⟨b, j, none⟩ = some (.int .i64 (L.getD j 0))) :
  Calls Try.prog 106 #[.slice (some ⟨b, 0, none⟩) n n, .int .i64 op] w fun e w' => e = .returned (.tuple #[.int .i64 (pickL L op).1, .bool (pickL L op).2]) ∧ w' = w := by
 subst hn
 unfold pickL
 by_cases h : op < 1 ∨ (L.length : Int) ≤ op
 ·rw [if_pos h]; exact pick_no L op b w hL h
 ·rw [if_neg h]; exact pick_yes L op b w hL hc (by omega) (by omega)
def fieldsF (k wk op er : Int) : Int × Bool :=
 if k = 1 then (4, op == 0 && wk == 0)
 else if k = 4 then (21, op == 0)
 else if k = 2 then pickL [0, 28, 1, 5, 9, 0, 0, 0] op
 else if k = 3 then (if er = 0 then (pickL [0, 70, 33, 71, 65] op).1 else bits BinOp.andNot IntKind.i64 (pickL [0, 70, 33, 71, 65] op).1 6, (pickL [0, 70, 33, 71, 65] op).2)
 else if k = 5 then (if er = 0 then (pickL [0, 66, 32, 66, 64, 0, 4, 4] op).1 else bits BinOp.andNot IntKind.i64 (pickL [0, 66, 32, 66, 64, 0, 4, 4] op).1 2, (pickL [0, 66, 32, 66, 64, 0, 4, 4] op).2)
 else (0, false)
set_option maxHeartbeats 4000000 in
set_option maxRecDepth 100000 in
theorem fields_any (k wk op hn hg nn ng t a u : Int) (y : Bool) (er : Int) (w : World) :
  Calls Try.prog 92 #[.agg (evC k wk op hn hg nn ng t a u y er)] w fun e w' => e = .returned (.tuple #[.int .i64 (fieldsF k wk op er).1, .bool (fieldsF k wk op er).2]) ∧ Below w.heap.size w w' := by
 have hu := Try.underlying54
 have HB := Aside0.mk (Below.refl w.heap.size w)
 unfold fieldsF
 by_cases k1 : k = 1
 ·subst k1
  rw [if_pos rfl]
  cases ho : (op == 0)
  all_goals
   go_enter Try.func92, Try.ntmps92
   go_wp2
   go_quiet (fail)
   go_wp2
   go_ret2
   exact ⟨by simp [*], by repeat (first | exact HB.out | apply below_alloc | apply pw_below_drewN)⟩
 ·rw [if_neg k1]
  have b1 : (k == 1) = false := beq_eq_false_iff_ne.2 k1
  clear k1
  by_cases k4 : k = 4
  ·subst k4
   rw [if_pos rfl]
   go_enter Try.func92, Try.ntmps92
   go_wp2
   go_ret2
   exact ⟨by simp [*], by repeat (first | exact HB.out | apply below_alloc | apply pw_below_drewN)⟩
  ·rw [if_neg k4]
   have b4 : (k == 4) = false := beq_eq_false_iff_ne.2 k4
   clear k4
   by_cases k2 : k = 2
   ·subst k2
    rw [if_pos rfl]
    go_enter Try.func92, Try.ntmps92
    go_wp2_with (go_at_call 106; (with_reducible refine (pick_any [0, 28, 1, 5, 9, 0, 0, 0] 8 rfl _ _ _ (by decide) (cells_lit _ [0, 28, 1, 5, 9, 0, 0, 0] _ _ ?c1 _ ?c2)).mono ?_); (case c1 => rfl); (case c2 => simp); rintro e w1 ⟨rfl, rfl⟩)
    go_ret2
    exact ⟨by simp [*], by repeat (first | exact HB.out | apply below_alloc | apply pw_below_drewN)⟩
   ·rw [if_neg k2]
    have b2 : (k == 2) = false := beq_eq_false_iff_ne.2 k2
    clear k2
    by_cases k3 : k = 3
    ·subst k3
     rw [if_pos rfl]
     cases he : (er == 0)
     ·rw [if_neg (beq_eq_false_iff_ne.1 he)]
      have he2 : (er != 0) = true := by simp [bne, he]
      go_enter Try.func92, Try.ntmps92
      go_wp2_with (go_at_call 106; (with_reducible refine (pick_any [0, 70, 33, 71, 65] 5 rfl _ _ _ (by decide) (cells_lit _ [0, 70, 33, 71, 65] _ _ ?c1 _ ?c2)).mono ?_); (case c1 => rfl); (case c2 => simp); rintro e w1 ⟨rfl, rfl⟩)
      go_ret2
      exact ⟨by simp [*], by repeat (first | exact HB.out | apply below_alloc | apply pw_below_drewN)⟩
     ·rw [if_pos (beq_iff_eq.1 he)]
      have he2 : (er != 0) = false := by simp [bne, he]
      go_enter Try.func92, Try.ntmps92
      go_wp2_with (go_at_call 106; (with_reducible refine (pick_any [0, 70, 33, 71, 65] 5 rfl _ _ _ (by decide) (cells_lit _ [0, 70, 33, 71, 65] _ _ ?c1 _ ?c2)).mono ?_); (case c1 => rfl); (case c2 => simp); rintro e w1 ⟨rfl, rfl⟩)
      go_ret2
      exact ⟨by simp [*], by repeat (first | exact HB.out | apply below_alloc | apply pw_below_drewN)⟩
    ·rw [if_neg k3]
     have b3 : (k == 3) = false := beq_eq_false_iff_ne.2 k3
     clear k3
     by_cases k5 : k = 5
     ·subst k5
      rw [if_pos rfl]
      cases he : (er == 0)
      ·rw [if_neg (beq_eq_false_iff_ne.1 he)]
       have he2 : (er != 0) = true := by simp [bne, he]
       go_enter Try.func92, Try.ntmps92
       go_wp2_with (go_at_call 106; (with_reducible refine (pick_any [0, 66, 32, 66, 64, 0, 4, 4] 8 rfl _ _ _ (by decide) (cells_lit _ [0, 66, 32, 66, 64, 0, 4, 4] _ _ ?c1 _ ?c2)).mono ?_); (case c1 => rfl); (case c2 => simp); rintro e w1 ⟨rfl, rfl⟩)
       go_ret2
       exact ⟨by simp [*], by repeat (first | exact HB.out | apply below_alloc | apply pw_below_drewN)⟩
      ·rw [if_pos (beq_iff_eq.1 he)]
       have he2 : (er != 0) = false := by simp [bne, he]
       go_enter Try.func92, Try.ntmps92
       go_wp2_with (go_at_call 106; (with_reducible refine (pick_any [0, 66, 32, 66, 64, 0, 4, 4] 8 rfl _ _ _ (by decide) (cells_lit _ [0, 66, 32, 66, 64, 0, 4, 4] _ _ ?c1 _ ?c2)).mono ?_); (case c1 => rfl); (case c2 => simp); rintro e w1 ⟨rfl, rfl⟩)
       go_ret2
       exact ⟨by simp [*], by repeat (first | exact HB.out | apply below_alloc | apply pw_below_drewN)⟩
     ·rw [if_neg k5]
      have b5 : (k == 5) = false := beq_eq_false_iff_ne.2 k5
      clear k5
      go_enter Try.func92, Try.ntmps92
      go_wp2
      go_ret2
      exact ⟨by simp [*], by repeat (first | exact HB.out | apply below_alloc | apply pw_below_drewN)⟩
end Go.Proofs.Ythniclbmpeklmaa.Ev
end
section
set_option maxHeartbeats 4000000
set_option maxRecDepth 100000
namespace Go.Proofs.Ythniclbmpeklmaa.Ev
open Go.RowKit Go.Proofs.YthniclbmpeklmaaW.PrintWords Go.Proofs.YthniclbmpeklmaaW.PrintLast Go.Proofs.YthniclbmpeklmaaW.PrintMore
set_option linter.unusedVariables false
set_option linter.unusedSimpArgs false
theorem bare_0 (k wk op hn hg nn ng t a u : Int) (y : Bool) (er : Int) (w : World) :
  Calls Try.prog 94 #[.agg (evC k wk op hn hg nn ng t a u y er), .int .i64 0] w fun e w' => e = .returned (.agg (evC k wk op hn hg nn ng t a u y er)) ∧ Below w.heap.size w w' := by
 have hu := Try.underlying54
 have hu2 := Try.underlying34
 have b1 : bits BinOp.and IntKind.i64 0 1 = 0 := by decide
 have b2 : bits BinOp.and IntKind.i64 0 2 = 0 := by decide
 have b4 : bits BinOp.and IntKind.i64 0 4 = 0 := by decide
 have b8 : bits BinOp.and IntKind.i64 0 8 = 0 := by decide
 have b16 : bits BinOp.and IntKind.i64 0 16 = 0 := by decide
 have b32 : bits BinOp.and IntKind.i64 0 32 = 0 := by decide
 have b64 : bits BinOp.and IntKind.i64 0 64 = 0 := by decide
 have HB := Aside0.mk (Below.refl w.heap.size w)
 cases y
 all_goals
  go_enter Try.func94, Try.ntmps94
  go_wp2
  go_rounds 4
  refine bodyPost_ret (v := .agg (evC k wk op hn hg nn ng t a u _ er)) (by simp [results, Try.results94, go_sem]) rfl ⟨rfl, ?_⟩
  repeat (first | exact HB.out | apply below_alloc | apply pw_below_drewN | refine Below.setCell ?_ (by simp) _)
theorem bare_1 (k wk op hn hg nn ng t a u : Int) (y : Bool) (er : Int) (w : World) :
  Calls Try.prog 94 #[.agg (evC k wk op hn hg nn ng t a u y er), .int .i64 1] w fun e w' => e = .returned (.agg (evC k wk op 0 0 nn ng t a u y er)) ∧ Below w.heap.size w w' := by
 have hu := Try.underlying54
 have hu2 := Try.underlying34
 have b1 : bits BinOp.and IntKind.i64 1 1 = 1 := by decide
 have b2 : bits BinOp.and IntKind.i64 1 2 = 0 := by decide
 have b4 : bits BinOp.and IntKind.i64 1 4 = 0 := by decide
 have b8 : bits BinOp.and IntKind.i64 1 8 = 0 := by decide
 have b16 : bits BinOp.and IntKind.i64 1 16 = 0 := by decide
 have b32 : bits BinOp.and IntKind.i64 1 32 = 0 := by decide
 have b64 : bits BinOp.and IntKind.i64 1 64 = 0 := by decide
 have HB := Aside0.mk (Below.refl w.heap.size w)
 cases y
 all_goals
  go_enter Try.func94, Try.ntmps94
  go_wp2
  go_rounds 4
  refine bodyPost_ret (v := .agg (evC k wk op 0 0 nn ng t a u _ er)) (by simp [results, Try.results94, go_sem]) rfl ⟨rfl, ?_⟩
  repeat (first | exact HB.out | apply below_alloc | apply pw_below_drewN | refine Below.setCell ?_ (by simp) _)
theorem bare_4 (k wk op hn hg nn ng t a u : Int) (y : Bool) (er : Int) (w : World) :
  Calls Try.prog 94 #[.agg (evC k wk op hn hg nn ng t a u y er), .int .i64 4] w fun e w' => e = .returned (.agg (evC k wk op hn hg nn ng 0 a u y er)) ∧ Below w.heap.size w w' := by
 have hu := Try.underlying54
 have hu2 := Try.underlying34
 have b1 : bits BinOp.and IntKind.i64 4 1 = 0 := by decide
 have b2 : bits BinOp.and IntKind.i64 4 2 = 0 := by decide
 have b4 : bits BinOp.and IntKind.i64 4 4 = 4 := by decide
 have b8 : bits BinOp.and IntKind.i64 4 8 = 0 := by decide
 have b16 : bits BinOp.and IntKind.i64 4 16 = 0 := by decide
 have b32 : bits BinOp.and IntKind.i64 4 32 = 0 := by decide
 have b64 : bits BinOp.and IntKind.i64 4 64 = 0 := by decide
 have HB := Aside0.mk (Below.refl w.heap.size w)
 cases y
 all_goals
  go_enter Try.func94, Try.ntmps94
  go_wp2
  go_rounds 4
  refine bodyPost_ret (v := .agg (evC k wk op hn hg nn ng 0 a u _ er)) (by simp [results, Try.results94, go_sem]) rfl ⟨rfl, ?_⟩
  repeat (first | exact HB.out | apply below_alloc | apply pw_below_drewN | refine Below.setCell ?_ (by simp) _)
theorem bare_5 (k wk op hn hg nn ng t a u : Int) (y : Bool) (er : Int) (w : World) :
  Calls Try.prog 94 #[.agg (evC k wk op hn hg nn ng t a u y er), .int .i64 5] w fun e w' => e = .returned (.agg (evC k wk op 0 0 nn ng 0 a u y er)) ∧ Below w.heap.size w w' := by
 have hu := Try.underlying54
 have hu2 := Try.underlying34
 have b1 : bits BinOp.and IntKind.i64 5 1 = 1 := by decide
 have b2 : bits BinOp.and IntKind.i64 5 2 = 0 := by decide
 have b4 : bits BinOp.and IntKind.i64 5 4 = 4 := by decide
 have b8 : bits BinOp.and IntKind.i64 5 8 = 0 := by decide
 have b16 : bits BinOp.and IntKind.i64 5 16 = 0 := by decide
 have b32 : bits BinOp.and IntKind.i64 5 32 = 0 := by decide
 have b64 : bits BinOp.and IntKind.i64 5 64 = 0 := by decide
 have HB := Aside0.mk (Below.refl w.heap.size w)
 cases y
 all_goals
  go_enter Try.func94, Try.ntmps94
  go_wp2
  go_rounds 4
  refine bodyPost_ret (v := .agg (evC k wk op 0 0 nn ng 0 a u _ er)) (by simp [results, Try.results94, go_sem]) rfl ⟨rfl, ?_⟩
  repeat (first | exact HB.out | apply below_alloc | apply pw_below_drewN | refine Below.setCell ?_ (by simp) _)
theorem bare_9 (k wk op hn hg nn ng t a u : Int) (y : Bool) (er : Int) (w : World) :
  Calls Try.prog 94 #[.agg (evC k wk op hn hg nn ng t a u y er), .int .i64 9] w fun e w' => e = .returned (.agg (evC k wk op 0 0 nn ng t 0 u y er)) ∧ Below w.heap.size w w' := by
 have hu := Try.underlying54
 have hu2 := Try.underlying34
 have b1 : bits BinOp.and IntKind.i64 9 1 = 1 := by decide
 have b2 : bits BinOp.and IntKind.i64 9 2 = 0 := by decide
 have b4 : bits BinOp.and IntKind.i64 9 4 = 0 := by decide
 have b8 : bits BinOp.and IntKind.i64 9 8 = 8 := by decide
 have b16 : bits BinOp.and IntKind.i64 9 16 = 0 := by decide
 have b32 : bits BinOp.and IntKind.i64 9 32 = 0 := by decide
 have b64 : bits BinOp.and IntKind.i64 9 64 = 0 := by decide
 have HB := Aside0.mk (Below.refl w.heap.size w)
 cases y
 all_goals
  go_enter Try.func94, Try.ntmps94
  go_wp2
  go_rounds 4
  refine bodyPost_ret (v := .agg (evC k wk op 0 0 nn ng t 0 u _ er)) (by simp [results, Try.results94, go_sem]) rfl ⟨rfl, ?_⟩
  repeat (first | exact HB.out | apply below_alloc | apply pw_below_drewN | refine Below.setCell ?_ (by simp) _)
theorem bare_21 (k wk op hn hg nn ng t a u : Int) (y : Bool) (er : Int) (w : World) :
  Calls Try.prog 94 #[.agg (evC k wk op hn hg nn ng t a u y er), .int .i64 21] w fun e w' => e = .returned (.agg (evC k wk op 0 0 nn ng 0 a 0 y er)) ∧ Below w.heap.size w w' := by
 have hu := Try.underlying54
 have hu2 := Try.underlying34
 have b1 : bits BinOp.and IntKind.i64 21 1 = 1 := by decide
 have b2 : bits BinOp.and IntKind.i64 21 2 = 0 := by decide
 have b4 : bits BinOp.and IntKind.i64 21 4 = 4 := by decide
 have b8 : bits BinOp.and IntKind.i64 21 8 = 0 := by decide
 have b16 : bits BinOp.and IntKind.i64 21 16 = 16 := by decide
 have b32 : bits BinOp.and IntKind.i64 21 32 = 0 := by decide
 have b64 : bits BinOp.and IntKind.i64 21 64 = 0 := by decide
 have HB := Aside0.mk (Below.refl w.heap.size w)
 cases y
 all_goals
  go_enter Try.func94, Try.ntmps94
  go_wp2
  go_rounds 4
  refine bodyPost_ret (v := .agg (evC k wk op 0 0 nn ng 0 a 0 _ er)) (by simp [results, Try.results94, go_sem]) rfl ⟨rfl, ?_⟩
  repeat (first | exact HB.out | apply below_alloc | apply pw_below_drewN | refine Below.setCell ?_ (by simp) _)
theorem bare_28 (k wk op hn hg nn ng t a u : Int) (y : Bool) (er : Int) (w : World) :
  Calls Try.prog 94 #[.agg (evC k wk op hn hg nn ng t a u y er), .int .i64 28] w fun e w' => e = .returned (.agg (evC k wk op hn hg nn ng 0 0 0 y er)) ∧ Below w.heap.size w w' := by
 have hu := Try.underlying54
 have hu2 := Try.underlying34
 have b1 : bits BinOp.and IntKind.i64 28 1 = 0 := by decide
 have b2 : bits BinOp.and IntKind.i64 28 2 = 0 := by decide
 have b4 : bits BinOp.and IntKind.i64 28 4 = 4 := by decide
 have b8 : bits BinOp.and IntKind.i64 28 8 = 8 := by decide
 have b16 : bits BinOp.and IntKind.i64 28 16 = 16 := by decide
 have b32 : bits BinOp.and IntKind.i64 28 32 = 0 := by decide
 have b64 : bits BinOp.and IntKind.i64 28 64 = 0 := by decide
 have HB := Aside0.mk (Below.refl w.heap.size w)
 cases y
 all_goals
  go_enter Try.func94, Try.ntmps94
  go_wp2
  go_rounds 4
  refine bodyPost_ret (v := .agg (evC k wk op hn hg nn ng 0 0 0 _ er)) (by simp [results, Try.results94, go_sem]) rfl ⟨rfl, ?_⟩
  repeat (first | exact HB.out | apply below_alloc | apply pw_below_drewN | refine Below.setCell ?_ (by simp) _)
theorem bare_32 (k wk op hn hg nn ng t a u : Int) (y : Bool) (er : Int) (w : World) :
  Calls Try.prog 94 #[.agg (evC k wk op hn hg nn ng t a u y er), .int .i64 32] w fun e w' => e = .returned (.agg (evC k wk op hn hg nn ng t a u false er)) ∧ Below w.heap.size w w' := by
 have hu := Try.underlying54
 have hu2 := Try.underlying34
 have b1 : bits BinOp.and IntKind.i64 32 1 = 0 := by decide
 have b2 : bits BinOp.and IntKind.i64 32 2 = 0 := by decide
 have b4 : bits BinOp.and IntKind.i64 32 4 = 0 := by decide
 have b8 : bits BinOp.and IntKind.i64 32 8 = 0 := by decide
 have b16 : bits BinOp.and IntKind.i64 32 16 = 0 := by decide
 have b32 : bits BinOp.and IntKind.i64 32 32 = 32 := by decide
 have b64 : bits BinOp.and IntKind.i64 32 64 = 0 := by decide
 have HB := Aside0.mk (Below.refl w.heap.size w)
 cases y
 all_goals
  go_enter Try.func94, Try.ntmps94
  go_wp2
  go_rounds 4
  refine bodyPost_ret (v := .agg (evC k wk op hn hg nn ng t a u _ er)) (by simp [results, Try.results94, go_sem]) rfl ⟨rfl, ?_⟩
  repeat (first | exact HB.out | apply below_alloc | apply pw_below_drewN | refine Below.setCell ?_ (by simp) _)
theorem bare_33 (k wk op hn hg nn ng t a u : Int) (y : Bool) (er : Int) (w : World) :
  Calls Try.prog 94 #[.agg (evC k wk op hn hg nn ng t a u y er), .int .i64 33] w fun e w' => e = .returned (.agg (evC k wk op 0 0 nn ng t a u false er)) ∧ Below w.heap.size w w' := by
 have hu := Try.underlying54
 have hu2 := Try.underlying34
 have b1 : bits BinOp.and IntKind.i64 33 1 = 1 := by decide
 have b2 : bits BinOp.and IntKind.i64 33 2 = 0 := by decide
 have b4 : bits BinOp.and IntKind.i64 33 4 = 0 := by decide
 have b8 : bits BinOp.and IntKind.i64 33 8 = 0 := by decide
 have b16 : bits BinOp.and IntKind.i64 33 16 = 0 := by decide
 have b32 : bits BinOp.and IntKind.i64 33 32 = 32 := by decide
 have b64 : bits BinOp.and IntKind.i64 33 64 = 0 := by decide
 have HB := Aside0.mk (Below.refl w.heap.size w)
 cases y
 all_goals
  go_enter Try.func94, Try.ntmps94
  go_wp2
  go_rounds 4
  refine bodyPost_ret (v := .agg (evC k wk op 0 0 nn ng t a u _ er)) (by simp [results, Try.results94, go_sem]) rfl ⟨rfl, ?_⟩
  repeat (first | exact HB.out | apply below_alloc | apply pw_below_drewN | refine Below.setCell ?_ (by simp) _)
theorem bare_64 (k wk op hn hg nn ng t a u : Int) (y : Bool) (er : Int) (w : World) :
  Calls Try.prog 94 #[.agg (evC k wk op hn hg nn ng t a u y er), .int .i64 64] w fun e w' => e = .returned (.agg (evC k wk op hn hg nn ng t a u y 0)) ∧ Below w.heap.size w w' := by
 have hu := Try.underlying54
 have hu2 := Try.underlying34
 have b1 : bits BinOp.and IntKind.i64 64 1 = 0 := by decide
 have b2 : bits BinOp.and IntKind.i64 64 2 = 0 := by decide
 have b4 : bits BinOp.and IntKind.i64 64 4 = 0 := by decide
 have b8 : bits BinOp.and IntKind.i64 64 8 = 0 := by decide
 have b16 : bits BinOp.and IntKind.i64 64 16 = 0 := by decide
 have b32 : bits BinOp.and IntKind.i64 64 32 = 0 := by decide
 have b64 : bits BinOp.and IntKind.i64 64 64 = 64 := by decide
 have HB := Aside0.mk (Below.refl w.heap.size w)
 cases y
 all_goals
  go_enter Try.func94, Try.ntmps94
  go_wp2
  go_rounds 4
  refine bodyPost_ret (v := .agg (evC k wk op hn hg nn ng t a u _ 0)) (by simp [results, Try.results94, go_sem]) rfl ⟨rfl, ?_⟩
  repeat (first | exact HB.out | apply below_alloc | apply pw_below_drewN | refine Below.setCell ?_ (by simp) _)
theorem bare_65 (k wk op hn hg nn ng t a u : Int) (y : Bool) (er : Int) (w : World) :
  Calls Try.prog 94 #[.agg (evC k wk op hn hg nn ng t a u y er), .int .i64 65] w fun e w' => e = .returned (.agg (evC k wk op 0 0 nn ng t a u y 0)) ∧ Below w.heap.size w w' := by
 have hu := Try.underlying54
 have hu2 := Try.underlying34
 have b1 : bits BinOp.and IntKind.i64 65 1 = 1 := by decide
 have b2 : bits BinOp.and IntKind.i64 65 2 = 0 := by decide
 have b4 : bits BinOp.and IntKind.i64 65 4 = 0 := by decide
 have b8 : bits BinOp.and IntKind.i64 65 8 = 0 := by decide
 have b16 : bits BinOp.and IntKind.i64 65 16 = 0 := by decide
 have b32 : bits BinOp.and IntKind.i64 65 32 = 0 := by decide
 have b64 : bits BinOp.and IntKind.i64 65 64 = 64 := by decide
 have HB := Aside0.mk (Below.refl w.heap.size w)
 cases y
 all_goals
  go_enter Try.func94, Try.ntmps94
  go_wp2
  go_rounds 4
  refine bodyPost_ret (v := .agg (evC k wk op 0 0 nn ng t a u _ 0)) (by simp [results, Try.results94, go_sem]) rfl ⟨rfl, ?_⟩
  repeat (first | exact HB.out | apply below_alloc | apply pw_below_drewN | refine Below.setCell ?_ (by simp) _)
theorem bare_66 (k wk op hn hg nn ng t a u : Int) (y : Bool) (er : Int) (w : World) :
  Calls Try.prog 94 #[.agg (evC k wk op hn hg nn ng t a u y er), .int .i64 66] w fun e w' => e = .returned (.agg (evC k wk op hn hg 0 0 t a u y 0)) ∧ Below w.heap.size w w' := by
 have hu := Try.underlying54
 have hu2 := Try.underlying34
 have b1 : bits BinOp.and IntKind.i64 66 1 = 0 := by decide
 have b2 : bits BinOp.and IntKind.i64 66 2 = 2 := by decide
 have b4 : bits BinOp.and IntKind.i64 66 4 = 0 := by decide
 have b8 : bits BinOp.and IntKind.i64 66 8 = 0 := by decide
 have b16 : bits BinOp.and IntKind.i64 66 16 = 0 := by decide
 have b32 : bits BinOp.and IntKind.i64 66 32 = 0 := by decide
 have b64 : bits BinOp.and IntKind.i64 66 64 = 64 := by decide
 have HB := Aside0.mk (Below.refl w.heap.size w)
 cases y
 all_goals
  go_enter Try.func94, Try.ntmps94
  go_wp2
  go_rounds 4
  refine bodyPost_ret (v := .agg (evC k wk op hn hg 0 0 t a u _ 0)) (by simp [results, Try.results94, go_sem]) rfl ⟨rfl, ?_⟩
  repeat (first | exact HB.out | apply below_alloc | apply pw_below_drewN | refine Below.setCell ?_ (by simp) _)
theorem bare_70 (k wk op hn hg nn ng t a u : Int) (y : Bool) (er : Int) (w : World) :
  Calls Try.prog 94 #[.agg (evC k wk op hn hg nn ng t a u y er), .int .i64 70] w fun e w' => e = .returned (.agg (evC k wk op hn hg 0 0 0 a u y 0)) ∧ Below w.heap.size w w' := by
 have hu := Try.underlying54
 have hu2 := Try.underlying34
 have b1 : bits BinOp.and IntKind.i64 70 1 = 0 := by decide
 have b2 : bits BinOp.and IntKind.i64 70 2 = 2 := by decide
 have b4 : bits BinOp.and IntKind.i64 70 4 = 4 := by decide
 have b8 : bits BinOp.and IntKind.i64 70 8 = 0 := by decide
 have b16 : bits BinOp.and IntKind.i64 70 16 = 0 := by decide
 have b32 : bits BinOp.and IntKind.i64 70 32 = 0 := by decide
 have b64 : bits BinOp.and IntKind.i64 70 64 = 64 := by decide
 have HB := Aside0.mk (Below.refl w.heap.size w)
 cases y
 all_goals
  go_enter Try.func94, Try.ntmps94
  go_wp2
  go_rounds 4
  refine bodyPost_ret (v := .agg (evC k wk op hn hg 0 0 0 a u _ 0)) (by simp [results, Try.results94, go_sem]) rfl ⟨rfl, ?_⟩
  repeat (first | exact HB.out | apply below_alloc | apply pw_below_drewN | refine Below.setCell ?_ (by simp) _)
theorem bare_71 (k wk op hn hg nn ng t a u : Int) (y : Bool) (er : Int) (w : World) :
  Calls Try.prog 94 #[.agg (evC k wk op hn hg nn ng t a u y er), .int .i64 71] w fun e w' => e = .returned (.agg (evC k wk op 0 0 0 0 0 a u y 0)) ∧ Below w.heap.size w w' := by
 have hu := Try.underlying54
 have hu2 := Try.underlying34
 have b1 : bits BinOp.and IntKind.i64 71 1 = 1 := by decide
 have b2 : bits BinOp.and IntKind.i64 71 2 = 2 := by decide
 have b4 : bits BinOp.and IntKind.i64 71 4 = 4 := by decide
 have b8 : bits BinOp.and IntKind.i64 71 8 = 0 := by decide
 have b16 : bits BinOp.and IntKind.i64 71 16 = 0 := by decide
 have b32 : bits BinOp.and IntKind.i64 71 32 = 0 := by decide
 have b64 : bits BinOp.and IntKind.i64 71 64 = 64 := by decide
 have HB := Aside0.mk (Below.refl w.heap.size w)
 cases y
 all_goals
  go_enter Try.func94, Try.ntmps94
  go_wp2
  go_rounds 4
  refine bodyPost_ret (v := .agg (evC k wk op 0 0 0 0 0 a u _ 0)) (by simp [results, Try.results94, go_sem]) rfl ⟨rfl, ?_⟩
  repeat (first | exact HB.out | apply below_alloc | apply pw_below_drewN | refine Below.setCell ?_ (by simp) _)
end Go.Proofs.Ythniclbmpeklmaa.Ev
end
section
namespace Go.Proofs.Ythniclbmpeklmaa.Ev
open Go.RowKit Go.Proofs.YthniclbmpeklmaaW.PrintWords Go.Proofs.YthniclbmpeklmaaW.PrintLast Go.Proofs.YthniclbmpeklmaaW.PrintMore
attribute [local go_sem] max2_int min2_int max_two min_two max_three min_three max_four min_four
set_option linter.unusedVariables false
set_option linter.unusedSimpArgs false
def countedB (k hn hg nn ng t a u : Int) : Bool :=
 (k == 3 || (decide (0 ≤ hn) && decide (0 ≤ hg))) && (decide (0 ≤ nn) && decide (0 ≤ ng) && decide (0 ≤ a) && decide (0 ≤ u) && (if k = 5 then decide (-1 ≤ t) else decide (0 ≤ t)))
theorem counted_eq (k hn hg nn ng t a u m m1 m2 m3 : Int) (e : (if hg < hn then hg else hn) = m) (e1 : (if ng < nn then ng else nn) = m1) (e2 : (if a < m1 then a else m1) = m2) (e3 : (if u < m2 then u else m2) = m3) :
  countedB k hn hg nn ng t a u = ((k == 3 || decide (0 ≤ m)) && (decide (0 ≤ m3) && (if k = 5 then decide (-1 ≤ t) else decide (0 ≤ t)))) := by
 have h1 : decide (0 ≤ m) = (decide (0 ≤ hn) && decide (0 ≤ hg)) := by
  rw [Bool.eq_iff_iff]
  simp
  split at e <;> omega
 have h3 : decide (0 ≤ m3) = (decide (0 ≤ nn) && decide (0 ≤ ng) && decide (0 ≤ a) && decide (0 ≤ u)) := by
  rw [Bool.eq_iff_iff]
  simp
  split at e1 <;> split at e2 <;> split at e3 <;> omega
 rw [h1, h3, countedB]
set_option maxHeartbeats 4000000 in
set_option maxRecDepth 100000 in
theorem counted_any (k wk op hn hg nn ng t a u : Int) (y : Bool) (er : Int) (w : World) :
  Calls Try.prog 93 #[.agg (evC k wk op hn hg nn ng t a u y er)] w fun e w' => e = .returned (.bool (countedB k hn hg nn ng t a u)) ∧ Below w.heap.size w w' := by
 have hu := Try.underlying54
 have HB := Aside0.mk (Below.refl w.heap.size w)
 obtain ⟨m, e⟩ : ∃ m, (if hg < hn then hg else hn) = m := ⟨_, rfl⟩
 obtain ⟨m1, e1⟩ : ∃ m, (if ng < nn then ng else nn) = m := ⟨_, rfl⟩
 obtain ⟨m2, e2⟩ : ∃ m, (if a < m1 then a else m1) = m := ⟨_, rfl⟩
 obtain ⟨m3, e3⟩ : ∃ m, (if u < m2 then u else m2) = m := ⟨_, rfl⟩
 rw [counted_eq k hn hg nn ng t a u m m1 m2 m3 e e1 e2 e3]
 by_cases k3 : k = 3
 ·subst k3
  go_enter Try.func93, Try.ntmps93
  go_wp2
  all_goals
   go_ret
   exact ⟨by simp [*] <;> omega, by repeat (first | exact HB.out | apply below_alloc | apply pw_below_drewN)⟩
 ·have b3 : (k != 3) = true := bne_iff_ne.2 k3
  have b3' : (k == 3) = false := beq_eq_false_iff_ne.2 k3
  by_cases k5 : k = 5
  ·subst k5
   clear k3
   go_enter Try.func93, Try.ntmps93
   go_wp2
   all_goals
    go_ret
    exact ⟨by simp [*] <;> omega, by repeat (first | exact HB.out | apply below_alloc | apply pw_below_drewN)⟩
  ·have b5 : (k == 5) = false := beq_eq_false_iff_ne.2 k5
   rw [if_neg k5]
   clear k3 k5
   go_enter Try.func93, Try.ntmps93
   go_wp2
   all_goals
    go_ret
    exact ⟨by simp [*] <;> omega, by repeat (first | exact HB.out | apply below_alloc | apply pw_below_drewN)⟩
end Go.Proofs.Ythniclbmpeklmaa.Ev
end
section
namespace Go.Proofs.Ythniclbmpeklmaa.Ev
open Go.RowKit Go.Proofs.YthniclbmpeklmaaW.PrintWords Go.Proofs.YthniclbmpeklmaaW.PrintLast Go.Proofs.YthniclbmpeklmaaW.PrintMore
set_option linter.unusedVariables false
set_option linter.unusedSimpArgs false
def zb (f b x : Int) : Int := if bits BinOp.and IntKind.i64 f b = 0 then x else 0
def zy (f : Int) (y : Bool) : Bool := y && bits BinOp.and IntKind.i64 f 32 == 0
def fset : List Int := [0, 1, 4, 5, 9, 21, 28, 32, 33, 64, 65, 66, 70, 71]
theorem bare_any (k wk op hn hg nn ng t a u : Int) (y : Bool) (er : Int) (f : Int) (hf : f ∈ fset) (w : World) :
  Calls Try.prog 94 #[.agg (evC k wk op hn hg nn ng t a u y er), .int .i64 f] w fun e w' => e = .returned (.agg (evC k wk op (zb f 1 hn) (zb f 1 hg) (zb f 2 nn) (zb f 2 ng) (zb f 4 t) (zb f 8 a) (zb f 16 u) (zy f y) (zb f 64 er))) ∧ Below w.heap.size w w' := by
 simp only [fset, List.mem_cons, List.not_mem_nil, or_false] at hf
 rcases hf with rfl | rfl | rfl | rfl | rfl | rfl | rfl | rfl | rfl | rfl | rfl | rfl | rfl | rfl
 ·simpa only [zb, zy, show bits BinOp.and IntKind.i64 0 1 = 0 from by decide, show bits BinOp.and IntKind.i64 0 2 = 0 from by decide, show bits BinOp.and IntKind.i64 0 4 = 0 from by decide, show bits BinOp.and IntKind.i64 0 8 = 0 from by decide, show bits BinOp.and IntKind.i64 0 16 = 0 from by decide, show bits BinOp.and IntKind.i64 0 32 = 0 from by decide, show bits BinOp.and IntKind.i64 0 64 = 0 from by decide, if_true, show ¬ ((1 : Int) = 0) from by decide, show ¬ ((2 : Int) = 0) from by decide, show ¬ ((4 : Int) = 0) from by decide, show ¬ ((8 : Int) = 0) from by decide, show ¬ ((16 : Int) = 0) from by decide, show ¬ ((64 : Int) = 0) from by decide, if_false, show ((32 : Int) == 0) = false from by decide, show ((0 : Int) == 0) = true from by decide, Bool.and_true, Bool.and_false] using bare_0 k wk op hn hg nn ng t a u y er w
 ·simpa only [zb, zy, show bits BinOp.and IntKind.i64 1 1 = 1 from by decide, show bits BinOp.and IntKind.i64 1 2 = 0 from by decide, show bits BinOp.and IntKind.i64 1 4 = 0 from by decide, show bits BinOp.and IntKind.i64 1 8 = 0 from by decide, show bits BinOp.and IntKind.i64 1 16 = 0 from by decide, show bits BinOp.and IntKind.i64 1 32 = 0 from by decide, show bits BinOp.and IntKind.i64 1 64 = 0 from by decide, if_true, show ¬ ((1 : Int) = 0) from by decide, show ¬ ((2 : Int) = 0) from by decide, show ¬ ((4 : Int) = 0) from by decide, show ¬ ((8 : Int) = 0) from by decide, show ¬ ((16 : Int) = 0) from by decide, show ¬ ((64 : Int) = 0) from by decide, if_false, show ((32 : Int) == 0) = false from by decide, show ((0 : Int) == 0) = true from by decide, Bool.and_true, Bool.and_false] using bare_1 k wk op hn hg nn ng t a u y er w
 ·simpa only [zb, zy, show bits BinOp.and IntKind.i64 4 1 = 0 from by decide, show bits BinOp.and IntKind.i64 4 2 = 0 from by decide, show bits BinOp.and IntKind.i64 4 4 = 4 from by decide, show bits BinOp.and IntKind.i64 4 8 = 0 from by decide, show bits BinOp.and IntKind.i64 4 16 = 0 from by decide, show bits BinOp.and IntKind.i64 4 32 = 0 from by decide, show bits BinOp.and IntKind.i64 4 64 = 0 from by decide, if_true, show ¬ ((1 : Int) = 0) from by decide, show ¬ ((2 : Int) = 0) from by decide, show ¬ ((4 : Int) = 0) from by decide, show ¬ ((8 : Int) = 0) from by decide, show ¬ ((16 : Int) = 0) from by decide, show ¬ ((64 : Int) = 0) from by decide, if_false, show ((32 : Int) == 0) = false from by decide, show ((0 : Int) == 0) = true from by decide, Bool.and_true, Bool.and_false] using bare_4 k wk op hn hg nn ng t a u y er w
 ·simpa only [zb, zy, show bits BinOp.and IntKind.i64 5 1 = 1 from by decide, show bits BinOp.and IntKind.i64 5 2 = 0 from by decide, show bits BinOp.and IntKind.i64 5 4 = 4 from by decide, show bits BinOp.and IntKind.i64 5 8 = 0 from by decide, show bits BinOp.and IntKind.i64 5 16 = 0 from by decide, show bits BinOp.and IntKind.i64 5 32 = 0 from by decide, show bits BinOp.and IntKind.i64 5 64 = 0 from by decide, if_true, show ¬ ((1 : Int) = 0) from by decide, show ¬ ((2 : Int) = 0) from by decide, show ¬ ((4 : Int) = 0) from by decide, show ¬ ((8 : Int) = 0) from by decide, show ¬ ((16 : Int) = 0) from by decide, show ¬ ((64 : Int) = 0) from by decide, if_false, show ((32 : Int) == 0) = false from by decide, show ((0 : Int) == 0) = true from by decide, Bool.and_true, Bool.and_false] using bare_5 k wk op hn hg nn ng t a u y er w
 ·simpa only [zb, zy, show bits BinOp.and IntKind.i64 9 1 = 1 from by decide, show bits BinOp.and IntKind.i64 9 2 = 0 from by decide, show bits BinOp.and IntKind.i64 9 4 = 0 from by decide, show bits BinOp.and IntKind.i64 9 8 = 8 from by decide, show bits BinOp.and IntKind.i64 9 16 = 0 from by decide, show bits BinOp.and IntKind.i64 9 32 = 0 from by decide, show bits BinOp.and IntKind.i64 9 64 = 0 from by decide, if_true, show ¬ ((1 : Int) = 0) from by decide, show ¬ ((2 : Int) = 0) from by decide, show ¬ ((4 : Int) = 0) from by decide, show ¬ ((8 : Int) = 0) from by decide, show ¬ ((16 : Int) = 0) from by decide, show ¬ ((64 : Int) = 0) from by decide, if_false, show ((32 : Int) == 0) = false from by decide, show ((0 : Int) == 0) = true from by decide, Bool.and_true, Bool.and_false] using bare_9 k wk op hn hg nn ng t a u y er w
 ·simpa only [zb, zy, show bits BinOp.and IntKind.i64 21 1 = 1 from by decide, show bits BinOp.and IntKind.i64 21 2 = 0 from by decide, show bits BinOp.and IntKind.i64 21 4 = 4 from by decide, show bits BinOp.and IntKind.i64 21 8 = 0 from by decide, show bits BinOp.and IntKind.i64 21 16 = 16 from by decide, show bits BinOp.and IntKind.i64 21 32 = 0 from by decide, show bits BinOp.and IntKind.i64 21 64 = 0 from by decide, if_true, show ¬ ((1 : Int) = 0) from by decide, show ¬ ((2 : Int) = 0) from by decide, show ¬ ((4 : Int) = 0) from by decide, show ¬ ((8 : Int) = 0) from by decide, show ¬ ((16 : Int) = 0) from by decide, show ¬ ((64 : Int) = 0) from by decide, if_false, show ((32 : Int) == 0) = false from by decide, show ((0 : Int) == 0) = true from by decide, Bool.and_true, Bool.and_false] using bare_21 k wk op hn hg nn ng t a u y er w
 ·simpa only [zb, zy, show bits BinOp.and IntKind.i64 28 1 = 0 from by decide, show bits BinOp.and IntKind.i64 28 2 = 0 from by decide, show bits BinOp.and IntKind.i64 28 4 = 4 from by decide, show bits BinOp.and IntKind.i64 28 8 = 8 from by decide, show bits BinOp.and IntKind.i64 28 16 = 16 from by decide, show bits BinOp.and IntKind.i64 28 32 = 0 from by decide, show bits BinOp.and IntKind.i64 28 64 = 0 from by decide, if_true, show ¬ ((1 : Int) = 0) from by decide, show ¬ ((2 : Int) = 0) from by decide, show ¬ ((4 : Int) = 0) from by decide, show ¬ ((8 : Int) = 0) from by decide, show ¬ ((16 : Int) = 0) from by decide, show ¬ ((64 : Int) = 0) from by decide, if_false, show ((32 : Int) == 0) = false from by decide, show ((0 : Int) == 0) = true from by decide, Bool.and_true, Bool.and_false] using bare_28 k wk op hn hg nn ng t a u y er w
 ·simpa only [zb, zy, show bits BinOp.and IntKind.i64 32 1 = 0 from by decide, show bits BinOp.and IntKind.i64 32 2 = 0 from by decide, show bits BinOp.and IntKind.i64 32 4 = 0 from by decide, show bits BinOp.and IntKind.i64 32 8 = 0 from by decide, show bits BinOp.and IntKind.i64 32 16 = 0 from by decide, show bits BinOp.and IntKind.i64 32 32 = 32 from by decide, show bits BinOp.and IntKind.i64 32 64 = 0 from by decide, if_true, show ¬ ((1 : Int) = 0) from by decide, show ¬ ((2 : Int) = 0) from by decide, show ¬ ((4 : Int) = 0) from by decide, show ¬ ((8 : Int) = 0) from by decide, show ¬ ((16 : Int) = 0) from by decide, show ¬ ((64 : Int) = 0) from by decide, if_false, show ((32 : Int) == 0) = false from by decide, show ((0 : Int) == 0) = true from by decide, Bool.and_true, Bool.and_false] using bare_32 k wk op hn hg nn ng t a u y er w
 ·simpa only [zb, zy, show bits BinOp.and IntKind.i64 33 1 = 1 from by decide, show bits BinOp.and IntKind.i64 33 2 = 0 from by decide, show bits BinOp.and IntKind.i64 33 4 = 0 from by decide, show bits BinOp.and IntKind.i64 33 8 = 0 from by decide, show bits BinOp.and IntKind.i64 33 16 = 0 from by decide, show bits BinOp.and IntKind.i64 33 32 = 32 from by decide, show bits BinOp.and IntKind.i64 33 64 = 0 from by decide, if_true, show ¬ ((1 : Int) = 0) from by decide, show ¬ ((2 : Int) = 0) from by decide, show ¬ ((4 : Int) = 0) from by decide, show ¬ ((8 : Int) = 0) from by decide, show ¬ ((16 : Int) = 0) from by decide, show ¬ ((64 : Int) = 0) from by decide, if_false, show ((32 : Int) == 0) = false from by decide, show ((0 : Int) == 0) = true from by decide, Bool.and_true, Bool.and_false] using bare_33 k wk op hn hg nn ng t a u y er w
 ·simpa only [zb, zy, show bits BinOp.and IntKind.i64 64 1 = 0 from by decide, show bits BinOp.and IntKind.i64 64 2 = 0 from by decide, show bits BinOp.and IntKind.i64 64 4 = 0 from by decide, show bits BinOp.and IntKind.i64 64 8 = 0 from by decide, show bits BinOp.and IntKind.i64 64 16 = 0 from by decide, show bits BinOp.and IntKind.i64 64 32 = 0 from by decide, show bits BinOp.and IntKind.i64 64 64 = 64 from by decide, if_true, show ¬ ((1 : Int) = 0) from by decide, show ¬ ((2 : Int) = 0) from by decide, show ¬ ((4 : Int) = 0) from by decide, show ¬ ((8 : Int) = 0) from by decide, show ¬ ((16 : Int) = 0) from by decide, show ¬ ((64 : Int) = 0) from by decide, if_false, show ((32 : Int) == 0) = false from by decide, show ((0 : Int) == 0) = true from by decide, Bool.and_true, Bool.and_false] using bare_64 k wk op hn hg nn ng t a u y er w
 ·simpa only [zb, zy, show bits BinOp.and IntKind.i64 65 1 = 1 from by decide, show bits BinOp.and IntKind.i64 65 2 = 0 from by decide, show bits BinOp.and IntKind.i64 65 4 = 0 from by decide, show bits BinOp.and IntKind.i64 65 8 = 0 from by decide, show bits BinOp.and IntKind.i64 65 16 = 0 from by decide, show bits BinOp.and IntKind.i64 65 32 = 0 from by decide, show bits BinOp.and IntKind.i64 65 64 = 64 from by decide, if_true, show ¬ ((1 : Int) = 0) from by decide, show ¬ ((2 : Int) = 0) from by decide, show ¬ ((4 : Int) = 0) from by decide, show ¬ ((8 : Int) = 0) from by decide, show ¬ ((16 : Int) = 0) from by decide, show ¬ ((64 : Int) = 0) from by decide, if_false, show ((32 : Int) == 0) = false from by decide, show ((0 : Int) == 0) = true from by decide, Bool.and_true, Bool.and_false] using bare_65 k wk op hn hg nn ng t a u y er w
 ·simpa only [zb, zy, show bits BinOp.and IntKind.i64 66 1 = 0 from by decide, show bits BinOp.and IntKind.i64 66 2 = 2 from by decide, show bits BinOp.and IntKind.i64 66 4 = 0 from by decide, show bits BinOp.and IntKind.i64 66 8 = 0 from by decide, show bits BinOp.and IntKind.i64 66 16 = 0 from by decide, show bits BinOp.and IntKind.i64 66 32 = 0 from by decide, show bits BinOp.and IntKind.i64 66 64 = 64 from by decide, if_true, show ¬ ((1 : Int) = 0) from by decide, show ¬ ((2 : Int) = 0) from by decide, show ¬ ((4 : Int) = 0) from by decide, show ¬ ((8 : Int) = 0) from by decide, show ¬ ((16 : Int) = 0) from by decide, show ¬ ((64 : Int) = 0) from by decide, if_false, show ((32 : Int) == 0) = false from by decide, show ((0 : Int) == 0) = true from by decide, Bool.and_true, Bool.and_false] using bare_66 k wk op hn hg nn ng t a u y er w
 ·simpa only [zb, zy, show bits BinOp.and IntKind.i64 70 1 = 0 from by decide, show bits BinOp.and IntKind.i64 70 2 = 2 from by decide, show bits BinOp.and IntKind.i64 70 4 = 4 from by decide, show bits BinOp.and IntKind.i64 70 8 = 0 from by decide, show bits BinOp.and IntKind.i64 70 16 = 0 from by decide, show bits BinOp.and IntKind.i64 70 32 = 0 from by decide, show bits BinOp.and IntKind.i64 70 64 = 64 from by decide, if_true, show ¬ ((1 : Int) = 0) from by decide, show ¬ ((2 : Int) = 0) from by decide, show ¬ ((4 : Int) = 0) from by decide, show ¬ ((8 : Int) = 0) from by decide, show ¬ ((16 : Int) = 0) from by decide, show ¬ ((64 : Int) = 0) from by decide, if_false, show ((32 : Int) == 0) = false from by decide, show ((0 : Int) == 0) = true from by decide, Bool.and_true, Bool.and_false] using bare_70 k wk op hn hg nn ng t a u y er w
 ·simpa only [zb, zy, show bits BinOp.and IntKind.i64 71 1 = 1 from by decide, show bits BinOp.and IntKind.i64 71 2 = 2 from by decide, show bits BinOp.and IntKind.i64 71 4 = 4 from by decide, show bits BinOp.and IntKind.i64 71 8 = 0 from by decide, show bits BinOp.and IntKind.i64 71 16 = 0 from by decide, show bits BinOp.and IntKind.i64 71 32 = 0 from by decide, show bits BinOp.and IntKind.i64 71 64 = 64 from by decide, if_true, show ¬ ((1 : Int) = 0) from by decide, show ¬ ((2 : Int) = 0) from by decide, show ¬ ((4 : Int) = 0) from by decide, show ¬ ((8 : Int) = 0) from by decide, show ¬ ((16 : Int) = 0) from by decide, show ¬ ((64 : Int) = 0) from by decide, if_false, show ((32 : Int) == 0) = false from by decide, show ((0 : Int) == 0) = true from by decide, Bool.and_true, Bool.and_false] using bare_71 k wk op hn hg nn ng t a u y er w
theorem pick_in (L : List Int) (op : Int) : (pickL L op).1 = 0 ∨ (pickL L op).1 ∈ L := by
 unfold pickL
 split
 ·exact .inl rfl
 ·right
  simp only [List.getD_eq_getElem?_getD]
  rename_i h
  have : op.toNat < L.length := by omega
  rw [List.getElem?_eq_getElem this]
  exact List.getElem_mem _
theorem fields_in (k wk op er : Int) : (fieldsF k wk op er).1 ∈ fset := by
 unfold fieldsF
 have p2 := pick_in [0, 28, 1, 5, 9, 0, 0, 0] op
 have p3 := pick_in [0, 70, 33, 71, 65] op
 have p5 := pick_in [0, 66, 32, 66, 64, 0, 4, 4] op
 generalize pickL [0, 28, 1, 5, 9, 0, 0, 0] op = q2 at *
 generalize pickL [0, 70, 33, 71, 65] op = q3 at *
 generalize pickL [0, 66, 32, 66, 64, 0, 4, 4] op = q5 at *
 split
 ·show (4 : Int) ∈ fset
  decide
 split
 ·show (21 : Int) ∈ fset
  decide
 split
 ·simp only [List.mem_cons, List.not_mem_nil, or_false] at p2
  rcases p2 with h | h | h | h | h | h | h | h | h <;> rw [h] <;> decide
 split
 ·simp only [List.mem_cons, List.not_mem_nil, or_false] at p3
  rcases p3 with h | h | h | h | h | h <;> rw [h] <;> split <;> dsimp only <;> decide
 split
 ·simp only [List.mem_cons, List.not_mem_nil, or_false] at p5
  rcases p5 with h | h | h | h | h | h | h | h | h <;> rw [h] <;> split <;> dsimp only <;> decide
 ·decide
theorem eqHa (d : Nat) (w : World) (x0 y0 : Int) (x1 y1 : Int) :
  (Op.equalIn (d + 2) 34 (.agg #[.int .i64 x0, .int .i64 x1]) (.agg #[.int .i64 y0, .int .i64 y1])).run Try.prog w = .ok (x0 == y0 && (x1 == y1)) w := by
 refine eqA_of Try.underlying34 (by kernel_rfl) ?_
 refine eqf_cons (by rfl) (by go_simp; rfl) (by go_simp; rfl) (by go_simp) ?_
 exact eqf_last (by rfl) (by go_simp; rfl) (by go_simp; rfl) (by go_simp)
theorem eqEv (d : Nat) (w : World) (x0 y0 : Int) (x1 y1 : Int) (x2 y2 : Int) (x3 y3 : Int) (x4 y4 : Int) (x5 y5 : Int) (x6 y6 : Int) (x7 y7 : Int) (x8 y8 : Int) (x9 y9 : Int) (x10 y10 : Bool) (x11 y11 : Int) :
  (Op.equalIn (d + 3) 54 (.agg #[.int .i64 x0, .int .i64 x1, .int .i64 x2, .int .i64 x3, .int .i64 x4, .int .i64 x5, .int .i64 x6, .int .i64 x7, .int .i64 x8, .int .i64 x9, .bool x10, .int .i64 x11]) (.agg #[.int .i64 y0, .int .i64 y1, .int .i64 y2, .int .i64 y3, .int .i64 y4, .int .i64 y5, .int .i64 y6, .int .i64 y7, .int .i64 y8, .int .i64 y9, .bool y10, .int .i64 y11])).run Try.prog w = .ok (x0 == y0 && (x1 == y1 && (x2 == y2 && ((x3 == y3 && (x4 == y4)) && ((x5 == y5 && (x6 == y6)) && (x7 == y7 && (x8 == y8 && (x9 == y9 && (x10 == y10 && (x11 == y11)))))))))) w := by
 refine eqA_of Try.underlying54 (by kernel_rfl) ?_
 refine eqf_cons (by rfl) (by go_simp; rfl) (by go_simp; rfl) (by go_simp) ?_
 refine eqf_cons (by rfl) (by go_simp; rfl) (by go_simp; rfl) (by go_simp) ?_
 refine eqf_cons (by rfl) (by go_simp; rfl) (by go_simp; rfl) (by go_simp) ?_
 refine eqf_cons (by rfl) (by go_simp) (by go_simp) (eqHa (d + 0) w _ _ _ _) ?_
 refine eqf_cons (by rfl) (by go_simp) (by go_simp) (eqHa (d + 0) w _ _ _ _) ?_
 refine eqf_cons (by rfl) (by go_simp; rfl) (by go_simp; rfl) (by go_simp) ?_
 refine eqf_cons (by rfl) (by go_simp; rfl) (by go_simp; rfl) (by go_simp) ?_
 refine eqf_cons (by rfl) (by go_simp; rfl) (by go_simp; rfl) (by go_simp) ?_
 refine eqf_cons (by rfl) (by go_simp; rfl) (by go_simp; rfl) (by go_simp) ?_
 exact eqf_last (by rfl) (by go_simp; rfl) (by go_simp; rfl) (by go_simp)
end Go.Proofs.Ythniclbmpeklmaa.Ev
end
section
namespace Go.Proofs.Ythniclbmpeklmaa.Ev
open Go.RowKit Go.Proofs.YthniclbmpeklmaaW.PrintWords Go.Proofs.YthniclbmpeklmaaW.PrintLast Go.Proofs.YthniclbmpeklmaaW.PrintMore
set_option linter.unusedVariables false
set_option linter.unusedSimpArgs false
theorem dlt {x : Int} (h : 0 ≤ x) : decide (x < 0) = false := decide_eq_false (by omega)
attribute [local go_sem high] eqEv eqHa
set_option maxHeartbeats 4000000 in
set_option maxRecDepth 100000 in
theorem right_walk (k wk op hn hg nn ng t a u : Int) (y : Bool) (er : Int) (f : Int) (ok q : Bool) (x1 x2 x3 x4 x5 x6 x7 : Int) (x8 : Bool) (x9 : Int)
    (CF : Aside0 (∀ W, Calls Try.prog 92 #[.agg (evC k wk op hn hg nn ng t a u y er)] W fun e w' => e = .returned (.tuple #[.int .i64 f, .bool ok]) ∧ Below W.heap.size W w'))
    (CC : Aside0 (∀ W, Calls Try.prog 93 #[.agg (evC k wk op hn hg nn ng t a u y er)] W fun e w' => e = .returned (.bool q) ∧ Below W.heap.size W w'))
    (CB : Aside0 (∀ W, Calls Try.prog 94 #[.agg (evC k wk op hn hg nn ng t a u y er), .int .i64 f] W fun e w' => e = .returned (.agg (evC k wk op x1 x2 x3 x4 x5 x6 x7 x8 x9)) ∧ Below W.heap.size W w')) (w : World) :
    Calls Try.prog 65 #[.agg (evC k wk op hn hg nn ng t a u y er)] w fun e w' => e = .returned (.bool (ok && (!decide (wk < 0) && (!decide (er < 0) && ((k == 2) || q))) && (x1 == 0 && x2 == 0 && x3 == 0 && x4 == 0 && x5 == 0 && x6 == 0 && x7 == 0 && !x8 && x9 == 0))) ∧ Below w.heap.size w w' := by
  have hu := Try.underlying54
  have hu2 := Try.underlying34
  by_cases k2 : k = 2
  · subst k2
    have HB := Aside0.mk (below_alloc (Below.refl w.heap.size w) (.cells (evC 2 wk op hn hg nn ng t a u y er) 54))
    have HO := Aside0.mk (heap_alloc_new w (.cells (evC 2 wk op hn hg nn ng t a u y er) 54))
    go_enter Try.func65, Try.ntmps65
    go_wp2_with (first | (go_at_call 92; (with_reducible refine (CF.out _).mono ?_); rintro e w1 ⟨rfl, hb⟩; have n0 := Aside0.mk (below_step HB.out hb); have n1 := Aside0.mk ((hb.block _ (by simp)).trans HO.out); clear HB HO hb; have HB := n0; have HO := n1; clear n0 n1; have hc := fun i => blk_cell HO.out i; have hz := Aside0.mk (blk_lt HO.out)) | (go_at_call 93; (with_reducible refine (CC.out _).mono ?_); rintro e w1 ⟨rfl, hb⟩; have n0 := Aside0.mk (below_step HB.out hb); have n1 := Aside0.mk ((hb.block _ hz.out).trans HO.out); clear hc; clear HB HO hb; have HB := n0; have HO := n1; clear n0 n1; have hc := fun i => blk_cell HO.out i))
    all_goals first
      | (go_ret; exact ⟨by first | (simp [*, Bool.and_assoc, dlt]; done) | (simp_all [Bool.and_assoc, dlt]; done) | (simp [*, Bool.and_assoc, dlt]; rename_i h9; intro hq; exfalso; rcases h9 with (h9 | h9) | h9; omega; omega; (rw [hq] at h9; cases h9)), HB.out⟩)
      | (go_region_held3 (fun w' => ∀ i, w'.cell? ⟨w.heap.size, i, none⟩ = (evC 2 wk op hn hg nn ng t a u y er)[i]?) ((intro i; exact blk_cell HO.out i)) ((go_at_call 94; (with_reducible refine (CB.out _).mono ?_); rintro e w2 ⟨rfl, hb⟩; have n0 := Aside0.mk (below_step (Below.drew HB.out) hb); have n1 := Aside0.mk ((hb.block _ (by exact blk_lt HO.out)).trans (by exact HO.out)); clear hc; clear HB HO hb; have HB := n0; have HO := n1; clear n0 n1))
         go_wp2
         go_ret
         exact ⟨by first | (simp [*, Bool.and_assoc, dlt]; done) | (simp_all [Bool.and_assoc, dlt]; done) | (simp [*, Bool.and_assoc, dlt]; rename_i h9; intro hq; exfalso; rcases h9 with (h9 | h9) | h9; omega; omega; (rw [hq] at h9; cases h9)), HB.out⟩)
  · have b2 : (k == 2) = false := beq_eq_false_iff_ne.2 k2
    have b2' : (k != 2) = true := bne_iff_ne.2 k2
    clear k2
    have HB := Aside0.mk (below_alloc (Below.refl w.heap.size w) (.cells (evC k wk op hn hg nn ng t a u y er) 54))
    have HO := Aside0.mk (heap_alloc_new w (.cells (evC k wk op hn hg nn ng t a u y er) 54))
    go_enter Try.func65, Try.ntmps65
    go_wp2_with (first | (go_at_call 92; (with_reducible refine (CF.out _).mono ?_); rintro e w1 ⟨rfl, hb⟩; have n0 := Aside0.mk (below_step HB.out hb); have n1 := Aside0.mk ((hb.block _ (by simp)).trans HO.out); clear HB HO hb; have HB := n0; have HO := n1; clear n0 n1; have hc := fun i => blk_cell HO.out i; have hz := Aside0.mk (blk_lt HO.out)) | (go_at_call 93; (with_reducible refine (CC.out _).mono ?_); rintro e w1 ⟨rfl, hb⟩; have n0 := Aside0.mk (below_step HB.out hb); have n1 := Aside0.mk ((hb.block _ hz.out).trans HO.out); clear hc; clear HB HO hb; have HB := n0; have HO := n1; clear n0 n1; have hc := fun i => blk_cell HO.out i))
    all_goals first
      | (go_ret; exact ⟨by first | (simp [*, Bool.and_assoc, dlt]; done) | (simp_all [Bool.and_assoc, dlt]; done) | (simp [*, Bool.and_assoc, dlt]; rename_i h9; intro hq; exfalso; rcases h9 with (h9 | h9) | h9; omega; omega; (rw [hq] at h9; cases h9)), HB.out⟩)
      | (go_region_held3 (fun w' => ∀ i, w'.cell? ⟨w.heap.size, i, none⟩ = (evC k wk op hn hg nn ng t a u y er)[i]?) ((intro i; exact blk_cell HO.out i)) ((go_at_call 94; (with_reducible refine (CB.out _).mono ?_); rintro e w2 ⟨rfl, hb⟩; have n0 := Aside0.mk (below_step (Below.drew HB.out) hb); have n1 := Aside0.mk ((hb.block _ (by exact blk_lt HO.out)).trans (by exact HO.out)); clear hc; clear HB HO hb; have HB := n0; have HO := n1; clear n0 n1))
         go_wp2
         go_ret
         exact ⟨by first | (simp [*, Bool.and_assoc, dlt]; done) | (simp_all [Bool.and_assoc, dlt]; done) | (simp [*, Bool.and_assoc, dlt]; rename_i h9; intro hq; exfalso; rcases h9 with (h9 | h9) | h9; omega; omega; (rw [hq] at h9; cases h9)), HB.out⟩)
def rightP (k wk op hn hg nn ng t a u : Int) (y : Bool) (er : Int) : Bool :=
  ((fieldsF k wk op er).2 && (!decide (wk < 0) && (!decide (er < 0) && ((k == 2) || countedB k hn hg nn ng t a u))) && (zb (fieldsF k wk op er).1 1 hn == 0 && zb (fieldsF k wk op er).1 1 hg == 0 && zb (fieldsF k wk op er).1 2 nn == 0 && zb (fieldsF k wk op er).1 2 ng == 0 && zb (fieldsF k wk op er).1 4 t == 0 && zb (fieldsF k wk op er).1 8 a == 0 && zb (fieldsF k wk op er).1 16 u == 0 && !zy (fieldsF k wk op er).1 y && zb (fieldsF k wk op er).1 64 er == 0))
theorem ev_right_any (k wk op hn hg nn ng t a u : Int) (y : Bool) (er : Int) (w : World) :
    Calls Try.prog 65 #[.agg (evC k wk op hn hg nn ng t a u y er)] w fun e w' => e = .returned (.bool (rightP k wk op hn hg nn ng t a u y er)) ∧ Below w.heap.size w w' :=
  right_walk k wk op hn hg nn ng t a u y er _ _ _ _ _ _ _ _ _ _ _ _ ⟨fun W => fields_any k wk op hn hg nn ng t a u y er W⟩ ⟨fun W => counted_any k wk op hn hg nn ng t a u y er W⟩ ⟨fun W => bare_any k wk op hn hg nn ng t a u y er _ (fields_in k wk op er) W⟩ w
end Go.Proofs.Ythniclbmpeklmaa.Ev
end
section
namespace Go.Proofs.Ythniclbmpeklmaa.Ev
open Go.RowKit
set_option linter.unusedVariables false
set_option linter.unusedSimpArgs false
set_option maxHeartbeats 4000000
theorem right_no (k wk op hn hg nn ng t a u : Int) (y : Bool) (er : Int) (h1 : (fieldsF k wk op er).2 = false) (h2 : kindB k wk op = false) : rightP k wk op hn hg nn ng t a u y er = evRight k wk op hn hg nn ng t a u y er := by
 rw [rightP, evRight, h1, h2]
 rfl
theorem pick_in1 {L : List Int} {op : Int} (h : op < 1 ∨ (L.length : Int) ≤ op) : pickL L op = (0, false) := if_pos h
theorem right_eq (k wk op hn hg nn ng t a u : Int) (y : Bool) (er : Int) : rightP k wk op hn hg nn ng t a u y er = evRight k wk op hn hg nn ng t a u y er := by
 by_cases k1 : k = 1
 ·subst k1
  cases y <;> (rw [Bool.eq_iff_iff]; simp (decide := true) [rightP, evRight, fieldsF, pickL, kindB, emptyB, hasH, hasN, hasT, hasA, hasU, hasY, hasE, in3, made, countedB, zb, zy, *] <;> omega)
 by_cases k4 : k = 4
 ·subst k4
  cases y <;> (rw [Bool.eq_iff_iff]; simp (decide := true) [rightP, evRight, fieldsF, pickL, kindB, emptyB, hasH, hasN, hasT, hasA, hasU, hasY, hasE, in3, made, countedB, zb, zy, *] <;> omega)
 by_cases k2 : k = 2
 ·subst k2
  by_cases h : op < 1 ∨ (8 : Int) ≤ op
  ·apply right_no
   ·rw [fieldsF, if_neg (by decide), if_neg (by decide), if_pos rfl, pick_in1 h]
   ·rw [Bool.eq_false_iff]
    simp [kindB]
    omega
  ·obtain rfl | rfl | rfl | rfl | rfl | rfl | rfl : op = 1 ∨ op = 2 ∨ op = 3 ∨ op = 4 ∨ op = 5 ∨ op = 6 ∨ op = 7 := by omega
   all_goals (cases y <;> (rw [Bool.eq_iff_iff]; simp (decide := true) [rightP, evRight, fieldsF, pickL, kindB, emptyB, hasH, hasN, hasT, hasA, hasU, hasY, hasE, in3, made, countedB, zb, zy, *] <;> omega))
 by_cases k3 : k = 3
 ·subst k3
  by_cases h : op < 1 ∨ (5 : Int) ≤ op
  ·apply right_no
   ·rw [fieldsF, if_neg (by decide), if_neg (by decide), if_neg (by decide), if_pos rfl, pick_in1 h]
   ·rw [Bool.eq_false_iff]
    simp [kindB]
    omega
  ·by_cases he : er = 0
   ·subst he
    obtain rfl | rfl | rfl | rfl : op = 1 ∨ op = 2 ∨ op = 3 ∨ op = 4 := by omega
    all_goals (cases y <;> (rw [Bool.eq_iff_iff]; simp (decide := true) [rightP, evRight, fieldsF, pickL, kindB, emptyB, hasH, hasN, hasT, hasA, hasU, hasY, hasE, in3, made, countedB, zb, zy, *] <;> omega))
   ·obtain rfl | rfl | rfl | rfl : op = 1 ∨ op = 2 ∨ op = 3 ∨ op = 4 := by omega
    all_goals (cases y <;> (rw [Bool.eq_iff_iff]; simp (decide := true) [rightP, evRight, fieldsF, pickL, kindB, emptyB, hasH, hasN, hasT, hasA, hasU, hasY, hasE, in3, made, countedB, zb, zy, *] <;> omega))
 by_cases k5 : k = 5
 ·subst k5
  by_cases h : op < 1 ∨ (8 : Int) ≤ op
  ·apply right_no
   ·rw [fieldsF, if_neg (by decide), if_neg (by decide), if_neg (by decide), if_neg (by decide), if_pos rfl, pick_in1 h]
   ·rw [Bool.eq_false_iff]
    simp [kindB]
    omega
  ·by_cases he : er = 0
   ·subst he
    obtain rfl | rfl | rfl | rfl | rfl | rfl | rfl : op = 1 ∨ op = 2 ∨ op = 3 ∨ op = 4 ∨ op = 5 ∨ op = 6 ∨ op = 7 := by omega
    all_goals (cases y <;> (rw [Bool.eq_iff_iff]; simp (decide := true) [rightP, evRight, fieldsF, pickL, kindB, emptyB, hasH, hasN, hasT, hasA, hasU, hasY, hasE, in3, made, countedB, zb, zy, *] <;> omega))
   ·obtain rfl | rfl | rfl | rfl | rfl | rfl | rfl : op = 1 ∨ op = 2 ∨ op = 3 ∨ op = 4 ∨ op = 5 ∨ op = 6 ∨ op = 7 := by omega
    all_goals (cases y <;> (rw [Bool.eq_iff_iff]; simp (decide := true) [rightP, evRight, fieldsF, pickL, kindB, emptyB, hasH, hasN, hasT, hasA, hasU, hasY, hasE, in3, made, countedB, zb, zy, *] <;> omega))
 apply right_no
 ·rw [fieldsF, if_neg k1, if_neg k4, if_neg k2, if_neg k3, if_neg k5]
 ·rw [Bool.eq_false_iff]
  simp [kindB]
  omega
theorem event_right (k wk op hn hg nn ng t a u : Int) (y : Bool) (er : Int) (w : World) :
  Calls Try.prog 65 #[.agg (evC k wk op hn hg nn ng t a u y er)] w fun e w' => e = .returned (.bool (evRight k wk op hn hg nn ng t a u y er)) ∧ Below w.heap.size w w' := by
 rw [← right_eq]
 exact ev_right_any k wk op hn hg nn ng t a u y er w
end Go.Proofs.Ythniclbmpeklmaa.Ev
end
section
namespace Go.Proofs.Ythniclbmpeklmaa.Au
open Go.RowKit Go.Maps Go.Proofs.YthniclbmpeklmaaW.PrintWords Go.Proofs.YthniclbmpeklmaaW.PrintLast Go.Proofs.YthniclbmpeklmaaW.PrintMore Go.Proofs.Ythniclbmpeklmaa.Mp
set_option linter.unusedVariables false
set_option linter.unusedSimpArgs false
def rightE (e : Ev) : Bool := Ev.evRight e.k e.wk e.op e.hn e.hg e.nn e.ng e.t e.a e.u e.y e.er
def clE (e : Ev) : Ev := if rightE e = true then e else zeroE
def gOf (l : List Ev) (i : Nat) : Ev := clE (l.getD i zeroE)
def wfE (e : Ev) : Prop := (Lit.int .i64 e.wk).wf = true ∧ (Lit.int .i64 e.hn).wf = true ∧ (Lit.int .i64 e.hg).wf = true ∧ (Lit.int .i64 e.nn).wf = true ∧ (Lit.int .i64 e.ng).wf = true
theorem right_kind {e : Ev} (h : rightE e = true) : e.k = 1 ∨ e.k = 2 ∨ e.k = 3 ∨ e.k = 4 ∨ e.k = 5 := by
 unfold rightE Ev.evRight Ev.kindB at h
 simp only [Bool.and_eq_true, Bool.or_eq_true, beq_iff_eq] at h
 omega
def EvAt (w : World) (A : Option Addr) (i : Nat) (e : Ev) : Prop := ∃ ad, A = some ad ∧ w.cell? (ad.add (i * 12)) = some (.int .i64 e.k) ∧ w.cell? ⟨(ad.add (i * 12)).block, (ad.add (i * 12)).off + 1, none⟩ = some (.int .i64 e.wk) ∧ w.cell? ⟨(ad.add (i * 12)).block, (ad.add (i * 12)).off + 2, none⟩ = some (.int .i64 e.op) ∧
 w.cell? ⟨(ad.add (i * 12)).block, (ad.add (i * 12)).off + 3, none⟩ = some (.int .i64 e.hn) ∧ w.cell? ⟨(ad.add (i * 12)).block, (ad.add (i * 12)).off + 4, none⟩ = some (.int .i64 e.hg) ∧ w.cell? ⟨(ad.add (i * 12)).block, (ad.add (i * 12)).off + 5, none⟩ = some (.int .i64 e.nn) ∧ w.cell? ⟨(ad.add (i * 12)).block, (ad.add (i * 12)).off + 6, none⟩ = some (.int .i64 e.ng) ∧
 w.cell? ⟨(ad.add (i * 12)).block, (ad.add (i * 12)).off + 7, none⟩ = some (.int .i64 e.t) ∧ w.cell? ⟨(ad.add (i * 12)).block, (ad.add (i * 12)).off + 8, none⟩ = some (.int .i64 e.a) ∧ w.cell? ⟨(ad.add (i * 12)).block, (ad.add (i * 12)).off + 9, none⟩ = some (.int .i64 e.u) ∧ w.cell? ⟨(ad.add (i * 12)).block, (ad.add (i * 12)).off + 10, none⟩ = some (.bool e.y) ∧
 w.cell? ⟨(ad.add (i * 12)).block, (ad.add (i * 12)).off + 11, none⟩ = some (.int .i64 e.er)
theorem EvAt.below {w w1 : World} {A : Option Addr} {i : Nat} {e : Ev} (h : EvAt w A i e) (hb : Below w.heap.size w w1) : EvAt w1 A i e := by
 obtain ⟨ad, hA, h0, h1, h2, h3, h4, h5, h6, h7, h8, h9, h10, h11⟩ := h
 exact ⟨ad, hA, pw_cell_below hb h0, pw_cell_below hb h1, pw_cell_below hb h2, pw_cell_below hb h3, pw_cell_below hb h4, pw_cell_below hb h5, pw_cell_below hb h6, pw_cell_below hb h7, pw_cell_below hb h8, pw_cell_below hb h9, pw_cell_below hb h10, pw_cell_below hb h11⟩
theorem erun (e : Ev) (W : World) : Calls Try.prog 65 #[.agg (evA e)] W fun r w' => r = .returned (.bool (rightE e)) ∧ Below W.heap.size W w' := Ev.event_right e.k e.wk e.op e.hn e.hg e.nn e.ng e.t e.a e.u e.y e.er W
structure Rd (w W : World) (b m1 m2 k : Nat) (s : Story) (vl vv vc : Value) : Prop where
 st : StIs W w.heap.size b k s vl vv vc m1 m2
 below : Below w.heap.size w W
structure Re (w W : World) (b m1 m2 k : Nat) (s : Story) (vl vv vc : Value) (eb : Nat) (e : Ev) : Prop where
 rd : Rd w W b m1 m2 k s vl vv vc
 ev : W.heap[eb]? = some (.cells (evA e) 54 (0, 0))
 eg : w.heap.size ≤ eb
 en : vl.ownBlock ≠ some eb
section
variable {w W W1 : World} {b m1 m2 k eb : Nat} {s : Story} {vl vv vc : Value} {e : Ev}
theorem Rd.step (h : Rd w W b m1 m2 k s vl vv vc) (hb : Below W.heap.size W W1) : Rd w W1 b m1 m2 k s vl vv vc := ⟨h.st.below hb, below_step h.below hb⟩
theorem Re.step (h : Re w W b m1 m2 k s vl vv vc eb e) (hb : Below W.heap.size W W1) : Re w W1 b m1 m2 k s vl vv vc eb e := ⟨h.rd.step hb, blk_below h.ev hb, h.eg, h.en⟩
theorem Re.alloc (h : Re w W b m1 m2 k s vl vv vc eb e) (o : Obj) : Re w (W.alloc o) b m1 m2 k s vl vv vc eb e := h.step (below_alloc (Below.refl _ _) o)
theorem Re.drew (h : Re w W b m1 m2 k s vl vv vc eb e) : Re w W.drew b m1 m2 k s vl vv vc eb e := h.step (Below.drew (Below.refl _ _))
theorem Re.drewN (h : Re w W b m1 m2 k s vl vv vc eb e) (q : Nat) : Re w (W.drewN q) b m1 m2 k s vl vv vc eb e := h.step (pw_below_drewN (Below.refl _ _) q)
theorem Re.cells (h : Re w W b m1 m2 k s vl vv vc eb e) : (∀ i, W.cell? ⟨b, i, none⟩ = (stA vl vv vc m1 m2)[i]?) ∧ (∀ i, W.cell? ⟨eb, i, none⟩ = (evA e)[i]?) ∧ (∀ i, W.frozen? ⟨b, i, none⟩ = false) := ⟨fun i => h.rd.st.cell i, fun i => blk_cell h.ev i, fun i => blk_frozen h.rd.st.blk i⟩
theorem Rd.start (h : Rd w W b m1 m2 k s vl vv vc) (e : Ev) : Re w (W.alloc (.cells (evA e) 54)) b m1 m2 k s vl vv vc W.heap.size e :=
 ⟨h.step (below_alloc (Below.refl _ _) _), blk_new _ _, by have := h.below.size; exact this, fun q => by obtain ⟨c, hc⟩ := h.st.rl.own q; have := blk_lt hc; omega⟩
theorem Rd.app_l {x : Ev} {g cap : Nat} (h : Rd w W b m1 m2 k s vl vv vc) (hown : RowIs W1 w.heap.size 54 12 evA (.slice (some ⟨g, 0, none⟩) (s.l.length + 1) cap) (s.l ++ [x])) (hg : W.grownBy W1 vl.ownBlock) :
  W1.heap[b]? = some (.cells (stA vl vv vc m1 m2) 97 (0, 0)) ∧ Rd w (W1.setCell ⟨b, 0, none⟩ (.slice (some ⟨g, 0, none⟩) (s.l.length + 1) cap)) b m1 m2 k { s with l := s.l ++ [x] } (.slice (some ⟨g, 0, none⟩) (s.l.length + 1) cap) vv vc := by
 obtain ⟨h1, h2⟩ := h.st.app_l hown hg
 refine ⟨h1, h2, Below.setCell (h.below.grown hg h.below.size (fun j hj => (h.st.rl.lt j hj).1)) h.st.hb _⟩
theorem Re.app_l {x : Ev} {g cap : Nat} (h : Re w W b m1 m2 k s vl vv vc eb e) (hown : RowIs W1 w.heap.size 54 12 evA (.slice (some ⟨g, 0, none⟩) (s.l.length + 1) cap) (s.l ++ [x])) (hg : W.grownBy W1 vl.ownBlock) (hat : vl.ownBlock = some g ∨ g = W.heap.size) :
  ((∀ i, W1.cell? ⟨b, i, none⟩ = (stA vl vv vc m1 m2)[i]?) ∧ (∀ i, W1.cell? ⟨eb, i, none⟩ = (evA e)[i]?) ∧ (∀ i, W1.frozen? ⟨b, i, none⟩ = false)) ∧ Re w (W1.setCell ⟨b, 0, none⟩ (.slice (some ⟨g, 0, none⟩) (s.l.length + 1) cap)) b m1 m2 k { s with l := s.l ++ [x] } (.slice (some ⟨g, 0, none⟩) (s.l.length + 1) cap) vv vc eb e := by
 obtain ⟨h1, h2⟩ := h.rd.app_l hown hg
 have he : W1.heap[eb]? = some (.cells (evA e) 54 (0, 0)) := blk_grown h.ev hg (fun q => h.en q.symm)
 refine ⟨⟨fun i => blk_cell h1 i, fun i => blk_cell he i, fun i => blk_frozen h1 i⟩, h2, blk_far he (types_ne h1 he (by decide)).symm _, h.eg, fun q => ?_⟩
 have q' : g = eb := by simpa [Value.ownBlock] using q
 rcases hat with r | r
 ·exact h.en (by rw [r, q'])
 ·have := blk_lt h.ev; omega
theorem Re.app_c {x : Cl} {g cap : Nat} (h : Re w W b m1 m2 k s vl vv vc eb e) (hown : RowIs W1 w.heap.size 103 15 clA (.slice (some ⟨g, 0, none⟩) (s.calls.length + 1) cap) (s.calls ++ [x])) (hg : W.grownBy W1 vc.ownBlock) :
  ((∀ i, W1.cell? ⟨b, i, none⟩ = (stA vl vv vc m1 m2)[i]?) ∧ (∀ i, W1.cell? ⟨eb, i, none⟩ = (evA e)[i]?) ∧ (∀ i, W1.frozen? ⟨b, i, none⟩ = false)) ∧ Rd w (W1.setCell ⟨b, 3, none⟩ (.slice (some ⟨g, 0, none⟩) (s.calls.length + 1) cap)) b m1 m2 k { s with calls := s.calls ++ [x] } vl vv (.slice (some ⟨g, 0, none⟩) (s.calls.length + 1) cap) := by
 obtain ⟨h1, h2⟩ := h.rd.st.app_c hown hg
 have he : W1.heap[eb]? = some (.cells (evA e) 54 (0, 0)) := blk_grown h.ev hg (fun q => by obtain ⟨c, hc⟩ := h.rd.st.rc.own q.symm; exact types_ne h.ev hc (by decide) rfl)
 exact ⟨⟨fun i => blk_cell h1 i, fun i => blk_cell he i, fun i => blk_frozen h1 i⟩, h2, Below.setCell (h.rd.below.grown hg h.rd.below.size (fun j hj => (h.rd.st.rc.lt j hj).1)) h.rd.st.hb _⟩
theorem Re.sto_o {f' : Int → Option Nat} {z' : Nat} (h : Re w W b m1 m2 k s vl vv vc eb e) (hm : MapIs (Value.int .i64) Try.prog 3 W1 m2 z' (nV f')) (hz : z' ≤ k + 1) (hg : W.grownBy W1 (some m2)) : Re w W1 b m1 m2 (k + 1) { s with opn := f' } vl vv vc eb e := by
 obtain ⟨z2, hz2, hm2⟩ := h.rd.st.mo
 obtain ⟨_, _, q2⟩ := hm2.block
 exact ⟨⟨h.rd.st.sto_o hm hz hg, h.rd.below.grown hg h.rd.below.size (fun j hj => by cases hj; exact h.rd.st.h2)⟩, blk_grown h.ev hg (fun q => map_ne h.ev q2 (Option.some.inj q)), h.eg, h.en⟩
theorem Rd.put_c {g cap j : Nat} {q : Cl} (i : Int) (h : Rd w W b m1 m2 k s vl vv (.slice (some ⟨g, 0, none⟩) s.calls.length cap)) (hq : s.calls[j]? = some q) :
  Rd w (W.setCell ⟨g, j * 15 + 14, none⟩ (.int .i64 i)) b m1 m2 k { s with calls := s.calls.set j { q with en := i } } vl vv (.slice (some ⟨g, 0, none⟩) s.calls.length cap) :=
 ⟨h.st.put_c i hq, Below.setCell h.below ((h.st.rc.lt g rfl).1) _⟩
theorem Rd.up (h : Rd w W b m1 m2 k s vl vv vc) {k' : Nat} (hk : k ≤ k') : Rd w W b m1 m2 k' s vl vv vc := ⟨h.st.up hk, h.below⟩
theorem Re.look (h : Re w W b m1 m2 k s vl vv vc eb e) {x : Int} (hx : (Lit.int .i64 x).wf = true) (W' : World) (hb : W'.heap[m2]? = W.heap[m2]?) :
  (Instr.lookup 95 (.map (some m2)) (.int .i64 x) true).run Try.prog W' = .ok (.tuple #[.int .i64 (((s.opn x).map (fun j => (j : Int))).getD 0), .bool (s.opn x).isSome]) W' := by
 obtain ⟨z, hz, hm⟩ := h.rd.st.mo
 exact look_o hm hx W' hb
end
theorem step_one {s : Story} {clk : Int} {i : Nat} {e : Ev} (h : e.k = 1) : stepF s clk i e = { s with l := s.l ++ [e] } := by unfold stepF; simp only [if_pos h]
theorem step_none {s : Story} {clk : Int} {i : Nat} {e : Ev} (h : e.k = 0) : stepF s clk i e = { s with l := s.l ++ [e] } := by unfold stepF; simp only [h]; rw [if_neg (by decide), if_neg (by decide), if_neg (by decide), if_neg (by decide)]
theorem step_two {s : Story} {clk : Int} {i : Nat} {e : Ev} (h : e.k = 2) : stepF s clk i e = { s with l := s.l ++ [e], opn := updW s.opn e.wk s.calls.length, calls := s.calls ++ [⟨e, i, clk, -1⟩] } := by unfold stepF; simp [h]
theorem step_five {s : Story} {clk : Int} {i : Nat} {e : Ev} (h : e.k = 5) : stepF s clk i e = backF { s with l := s.l ++ [e] } i e := by unfold stepF; simp [h]
theorem step_turn {s : Story} {clk : Int} {i : Nat} {e : Ev} (h : e.k = 3 ∨ e.k = 4) : stepF s clk i e = turnF { s with l := s.l ++ [e] } i e := by unfold stepF; simp only []; rw [if_neg (by omega), if_neg (by omega), if_neg (by omega), if_pos h]
theorem back_none {s : Story} {i : Nat} {e : Ev} (h : s.opn e.wk = none) : backF s i e = s := by unfold backF; rw [h]
theorem back_set {s : Story} {i j : Nat} {e : Ev} {q : Cl} (h : s.opn e.wk = some j) (hq : s.calls[j]? = some q) (hc : q.e.op = e.op ∧ q.en < 0) : backF s i e = { s with calls := s.calls.set j { q with en := i } } := by unfold backF; simp only [h, hq]; rw [if_pos hc]
theorem back_keep {s : Story} {i j : Nat} {e : Ev} {q : Cl} (h : s.opn e.wk = some j) (hq : s.calls[j]? = some q) (hc : ¬ (q.e.op = e.op ∧ q.en < 0)) : backF s i e = s := by unfold backF; simp only [h, hq]; rw [if_neg hc]
theorem clk_one {g : Nat → Ev} {n : Nat} (h : (g n).k = 1) : clkN g (n + 1) = (g n).t := by unfold clkN; rw [if_pos h]
theorem clk_not {g : Nat → Ev} {n : Nat} (h : (g n).k ≠ 1) : clkN g (n + 1) = clkN g n := by rw [clkN, if_neg h]
def ReadPost (l : List Ev) (w : World) (r : Ending) (w' : World) : Prop := ∃ b m1 m2 vl vv vc, r = .returned (.pointer (some ⟨b, 0, none⟩)) ∧ StIs w' w.heap.size b l.length (storyN (gOf l) l.length) vl vv vc m1 m2 ∧ Below w.heap.size w w'
theorem g_at {l : List Ev} {k : Nat} {e : Ev} (h : l[k]? = some e) : gOf l k = clE e := by unfold gOf; rw [List.getD_eq_getElem?_getD, h]; rfl
theorem calls_len (g : Nat → Ev) (k n : Nat) (hn : n ≤ 1000000) (hk : k ≤ n) : (storyN g k).calls.length ≤ 1000000 := by
 have : ∀ m, (storyN g m).calls.length ≤ m := by
  intro m
  induction m with
  | zero => exact Nat.le_refl _
  | succ m ih =>
   show (stepF (storyN g m) (clkN g m) m (g m)).calls.length ≤ m + 1
   unfold stepF
   simp only []
   split
   ·exact Nat.le_succ_of_le ih
   split
   ·simp; exact ih
   split
   ·unfold backF
    split
    ·exact Nat.le_succ_of_le ih
    ·split
     ·exact Nat.le_succ_of_le ih
     ·split
      ·simp; omega
      ·exact Nat.le_succ_of_le ih
   split
   ·unfold turnF
    rw [(turn2_c _ _ _).1, (turn1_c _ _ _).1]
    exact Nat.le_succ_of_le ih
   ·exact Nat.le_succ_of_le ih
 have := this k
 omega
theorem lives_len (g : Nat → Ev) (k n : Nat) (hn : n ≤ 1000000) (hk : k ≤ n) : (storyN g k).lives.length ≤ 1000000 := by
 have t1 : ∀ (s : Story) i e, (turn1 s i e).lives.length = s.lives.length := fun s i e => by
  unfold turn1
  split
  ·rfl
  ·split
   ·rfl
   ·split
    ·simp
    ·rfl
 have t2 : ∀ (s : Story) i e, (turn2 s i e).lives.length ≤ s.lives.length + 1 := fun s i e => by
  unfold turn2
  split
  ·omega
  ·split
   ·omega
   ·simp
 have : ∀ m, (storyN g m).lives.length ≤ m := by
  intro m
  induction m with
  | zero => exact Nat.le_refl _
  | succ m ih =>
   show (stepF (storyN g m) (clkN g m) m (g m)).lives.length ≤ m + 1
   unfold stepF
   simp only []
   split
   ·exact Nat.le_succ_of_le ih
   split
   ·exact Nat.le_succ_of_le ih
   split
   ·rw [(backF_c _ _ _).1]
    exact Nat.le_succ_of_le ih
   split
   ·unfold turnF
    have h1 := t2 (turn1 { storyN g m with l := (storyN g m).l ++ [g m] } m (g m)) m (g m)
    rw [t1] at h1
    have h2 : (storyN g m).lives.length ≤ m := ih
    exact Nat.le_trans h1 (Nat.succ_le_succ h2)
   ·exact Nat.le_succ_of_le ih
 have := this k
 omega
def readR.T8 : Bool × List (List Nat × List Nat) := (true, [([], []), ([], []), ([1], [1]), ([2], [2]), ([3], [3]), ([], []), ([5], [5]), ([4, 6], [4, 6]), ([0, 0, 1, 2, 3, 4, 5, 6, 7], [0]), ([8, 0, 1, 2, 3, 4, 5, 6, 7], [8]), ([9, 7, 7, 0, 1, 2, 3, 4, 5, 6, 7], [7, 9])])
def readR.B8 : List Nat := [0, 0, 2, 6, 14, 0, 32, 126, 255, 511, 1023]
theorem readR.tab8 : rtab .any (opsOf Try.f47 8) = readR.T8 := by kernel_rfl
theorem readR.bits8 : waitsOk readR.T8.2 readR.B8 = true := by kernel_rfl
def readR.T15 : Bool × List (List Nat × List Nat) := (true, [([], []), ([], []), ([1], [1]), ([2], [2]), ([3], [3]), ([], []), ([], []), ([], []), ([5, 6, 7], [5, 6, 7]), ([8], [8]), ([4, 9], [4, 9]), ([0, 0, 1, 2, 3, 4, 5, 6, 7, 8, 9, 10], [0]), ([11, 0, 1, 2, 3, 4, 5, 6, 7, 8, 9, 10], [11]), ([12, 10, 10, 0, 1, 2, 3, 4, 5, 6, 7, 8, 9, 10], [10, 12])])
def readR.B15 : List Nat := [0, 0, 2, 6, 14, 0, 0, 0, 224, 480, 1022, 2047, 4095, 8191]
theorem readR.tab15 : rtab .any (opsOf Try.f47 15) = readR.T15 := by kernel_rfl
theorem readR.bits15 : waitsOk readR.T15.2 readR.B15 = true := by kernel_rfl
set_option maxHeartbeats 20000000 in
set_option maxRecDepth 100000 in
theorem read_any (A1 : Option Addr) (c1 : Nat) (l : List Ev) (hn : l.length ≤ 1000000) (w : World) (hin : ∀ (i : Nat) e, l[i]? = some e → EvAt w A1 i e) (hwf : ∀ e ∈ l, wfE e) :
  Calls Try.prog 47 #[.slice A1 l.length c1] w (ReadPost l w) := by
 have hu97 := Try.underlying97
 have hu54 := Try.underlying54
 have hu34 := Try.underlying34
 have hu103 := Try.underlying103
 have hmm := @run_makeMap Try.prog
 have HIN := Aside0.mk hin
 have HWF := Aside0.mk hwf
 have HN := Aside0.mk hn
 clear hin hwf hn
 go_enter Try.func47, Try.ntmps47
 go_wp2
 obtain ⟨b, hb⟩ : ∃ b, b = w.heap.size + 1 + 1 := ⟨_, rfl⟩
 obtain ⟨m1, hm1⟩ : ∃ m1, m1 = w.heap.size := ⟨_, rfl⟩
 obtain ⟨m2, hm2⟩ : ∃ m2, m2 = w.heap.size + 1 := ⟨_, rfl⟩
 have HS0 : Aside0 (Rd w (((w.alloc (.map #[] 0)).alloc (.map #[] 0)).alloc (.cells (stA (.slice none 0 0) (.slice none 0 0) (.slice none 0 0) m1 m2) 97)) b m1 m2 0 story0 (.slice none 0 0) (.slice none 0 0) (.slice none 0 0)) := ⟨by
  subst hb hm1 hm2
  have q1 := (MapIs.made (c := haV) w Try.prog 34).move (w' := ((w.alloc (.map #[] 0)).alloc (.map #[] 0)).alloc (.cells (stA (.slice none 0 0) (.slice none 0 0) (.slice none 0 0) w.heap.size (w.heap.size + 1)) 97)) (by rw [Below.heap_alloc _ _ _ (by simp; omega), Below.heap_alloc _ _ _ (by simp)])
  have q2 := (MapIs.made (c := Value.int .i64) (w.alloc (.map #[] 0)) Try.prog 3).move (w' := ((w.alloc (.map #[] 0)).alloc (.map #[] 0)).alloc (.cells (stA (.slice none 0 0) (.slice none 0 0) (.slice none 0 0) w.heap.size (w.heap.size + 1)) 97)) (by rw [Below.heap_alloc _ _ _ (by simp)])
  refine ⟨⟨by simpa using blk_new ((w.alloc (.map #[] 0)).alloc (.map #[] 0)) (.cells (stA (.slice none 0 0) (.slice none 0 0) (.slice none 0 0) w.heap.size (w.heap.size + 1)) 97), RowIs.nil _ _ _ _ _, RowIs.nil _ _ _ _ _, RowIs.nil _ _ _ _ _, ⟨0, Nat.le_refl _, q1⟩, ⟨0, Nat.le_refl _, by have q := q2; rw [show (w.alloc (.map #[] 0)).heap.size = w.heap.size + 1 by simp] at q; exact q⟩, by omega, by omega, by omega, by omega⟩, below_alloc (below_alloc (below_alloc (Below.refl _ _) _) _) _⟩⟩
 rw [← hb, ← hm2, ← hm1]
 clear hb hm1 hm2
 go_loopw [4, 15] (fun vc0 i wr => ∃ k : Nat, k ≤ l.length ∧ i = .int .i64 k ∧ vc0 = .int .i64 (clkN (gOf l) k) ∧ Aside0 (∃ vl vv vc, Rd w wr b m1 m2 k (storyN (gOf l) k) vl vv vc)) (fun _ i _ => l.length - (intOf i).toNat)
 case atStart => exact ⟨0, by omega, rfl, rfl, ⟨_, _, _, HS0.out⟩⟩
 case round =>
  clear HS0
  obtain ⟨k, hk, rfl, rfl, HS⟩ := hrel
  rcases Nat.lt_or_ge k l.length with hlt | hge
  ·have p0 : (0 : Int) ≤ (k : Int) := by omega
   have q0 : (k : Int) < (l.length : Int) := by omega
   obtain ⟨e, he⟩ : ∃ e, l[k]? = some e := ⟨_, List.getElem?_eq_getElem hlt⟩
   obtain ⟨vl, vv, vc, hS⟩ := HS.out
   clear HS
   have hgk := g_at he
   have HW := Aside0.mk (HWF.out e (get_mem he))
   obtain ⟨ad, rfl, c0, c1', c2, c3', c4, c5, c6, c7, c8, c9, c10, c11⟩ := (HIN.out k e he).below hS.below
   obtain ⟨A3, c3, rfl, hc3⟩ := hS.st.rc.form
   have hnn : wrap64 ((k : Int) + 1) = ((k + 1 : Nat) : Int) := by have := HN.out; unfold wrap64; omega
   have INV := Aside0.mk (inv_all (gOf l) k (by have := HN.out; unfold noEnd; omega))
   have HGK := Aside0.mk hgk
   have HST := Aside0.mk (show storyN (gOf l) (k + 1) = stepF (storyN (gOf l) k) (clkN (gOf l) k) k (clE e) by rw [← hgk]; rfl)
   clear hgk
   have HLL := Aside0.mk (show (storyN (gOf l) k).l.length ≤ 1000000 by rw [INV.out.len]; have := HN.out; omega)
   have HLC : Aside0 ((storyN (gOf l) k).calls.length ≤ 1000000) := ⟨calls_len _ _ _ HN.out hk⟩
   have HLV : Aside0 ((storyN (gOf l) k).lives.length ≤ 1000000) := ⟨lives_len _ _ _ HN.out hk⟩
   have HAT : Aside0 (∀ h j, (storyN (gOf l) k).at_ h = some j → ∃ x, (storyN (gOf l) k).lives[j]? = some x) := ⟨fun h j q => by obtain ⟨x, hx, _⟩ := INV.out.v.at1 h j q; exact ⟨x, hx⟩⟩
   have HOP : Aside0 (∀ x j, (storyN (gOf l) k).opn x = some j → ∃ q, (storyN (gOf l) k).calls[j]? = some q) := ⟨fun x j q => by obtain ⟨y, _, hy, _⟩ := INV.out.c.open1 x j q; exact ⟨y, hy⟩⟩
   have HH := Aside0.mk (hS.start e)
   have HSS := Aside0.mk hS
   generalize hs : storyN (gOf l) k = s at HH HSS HST HLL HLC HLV HAT HOP INV
   clear hs hS he hc3 INV
   have CR := Aside0.mk (fun W => erun e W)
   replace q0 := eq_true q0
   replace p0 := eq_true p0
   cases hr : rightE e with
   | false =>
    rw [hr] at CR
    have hz : clE e = zeroE := by unfold clE; rw [hr]; rfl
    rw [hz] at HST
    have HF := Aside0.mk (HST.out.trans (step_none rfl))
    have HCK := Aside0.mk (show clkN (gOf l) (k + 1) = clkN (gOf l) k from clk_not (by rw [HGK.out, hz]; decide))
    clear hr hz HST
    go_wp2_with (first
     | (go_at_call 65; (with_reducible refine (CR.out _).mono ?_); rintro r w2 ⟨rfl, hb⟩; have HR2 := Aside0.mk (HH.out.step hb); have hlt2 := HR2.out.rd.st.lt; have hc := fun i => HR2.out.rd.st.cell i; clear hb)
     | (at_builtin; refine RowIs.append_wpl (by rfl) 24 96 _ _ _ Try.underlying24 ev_info rfl (by decide) rfl HR2.out.rd.st.rl zeroE rfl (by simp [Value.oneCell', zeroE]) (by rfl) (by rfl) HLL.out (by decide) HR2.out.rd.below.size ?_; intro gg cap6 w6 hown hgrow hat; have HP := Aside0.mk ((HR2.out.alloc _).app_l hown hgrow (by simpa using hat)); have hc6 := HP.out.1.1; have hf6 := HP.out.1.2.2; clear hown hgrow hat))
    go_roundw
    case rel => exact ⟨k + 1, by omega, by first | rw [hnn] | simp, by rw [HCK.out], ⟨_, _, _, HF.out ▸ HP.out.2.rd.up (Nat.le_succ k)⟩⟩
    case measure => first | (rw [hnn]; simp [intOf]; omega) | (simp [intOf]; omega)
   | true =>
    rw [hr] at CR
    have hz : clE e = e := by unfold clE; rw [hr]; rfl
    rw [hz] at HST
    have HCG := Aside0.mk (HGK.out.trans hz)
    have hkind := right_kind hr
    clear hr hz HGK
    go_upto_region 8 with (go_at_call 65; (with_reducible refine (CR.out _).mono ?_); rintro r w2 ⟨rfl, hb⟩; have HR2 := Aside0.mk (HH.out.step hb); clear hb)
    refine start_ (n := 11) (S := (fun w' => (∀ i, w'.cell? ⟨b, i, none⟩ = (stA vl vv (.slice A3 s.calls.length c3) m1 m2)[i]?) ∧ (∀ i, w'.cell? ⟨wr.heap.size, i, none⟩ = (evA e)[i]?) ∧ (∀ i, w'.frozen? ⟨b, i, none⟩ = false))) (ds := [10]) #[ff,ff,ff,ff,ff,ff,ff,ff,ff,ff,ff] (by kernel_rfl) rfl rfl HR2.out.drew.cells (fun hHeld => ?_)
    refine with_tabW readR.tab8 readR.bits8 (fun HT_ HW_ => ?_)
    have HR3 := Aside0.mk HR2.out.drew
    generalize w2.drew = w3 at HR3 hHeld ⊢
    have hlt3 := HR3.out.rd.st.lt
    refine pure_ (i := 0) (N := (some 33)) (v := ?_) (a' := ?_) #[tt,ff,ff,ff,ff,ff,ff,ff,ff,ff,ff] rfl rfl (any_of HT_.out (by kernel_rfl)) (fun _ _ _ h => h) (Or.inl ⟨by rfl, ?_⟩) ?_ ?_
    rotate_left
    ·intro w'
     go_simp
     with_reducible rfl
    rotate_left
    ·simp only [Act.put, sQ0, sQ1, sQ2, i64_w]
     rfl
    refine pure_ (i := 1) (N := (some 34)) (v := ?_) (a' := ?_) #[tt,tt,ff,ff,ff,ff,ff,ff,ff,ff,ff] rfl rfl (any_of HT_.out (by kernel_rfl)) (fun _ _ _ h => h) (Or.inl ⟨by rfl, ?_⟩) ?_ ?_
    rotate_left
    ·intro w'
     go_simp
     with_reducible rfl
    rotate_left
    ·simp only [Act.put, sQ0, sQ1, sQ2, i64_w]
     rfl
    refine pure_ (i := 2) (N := (some 35)) (v := ?_) (a' := ?_) #[tt,tt,tt,ff,ff,ff,ff,ff,ff,ff,ff] rfl rfl (any_of HT_.out (by kernel_rfl)) (fun _ _ _ h => h) (Or.inl ⟨by rfl, ?_⟩) ?_ ?_
    rotate_left
    ·intro w'
     go_simp
     with_reducible rfl
    rotate_left
    ·simp only [Act.put, sQ0, sQ1, sQ2, i64_w]
     rfl
    refine pure_ (i := 3) (N := (some 36)) (v := ?_) (a' := ?_) #[tt,tt,tt,tt,ff,ff,ff,ff,ff,ff,ff] rfl rfl (any_of HT_.out (by kernel_rfl)) (fun _ _ _ h => h) (Or.inl ⟨by rfl, ?_⟩) ?_ ?_
    rotate_left
    ·intro w'
     go_simp
     with_reducible rfl
    rotate_left
    ·simp only [Act.put, sQ0, sQ1, sQ2, i64_w]
     rfl
    refine take_ (i := 4) (N := (some 37)) (v := ?_) (a' := ?_) #[tt,tt,tt,tt,tt,ff,ff,ff,ff,ff,ff] rfl rfl (take_ofW HT_.out HW_.out (by kernel_rfl)) (fun _ _ _ h => h) (Or.inl ⟨by rfl, ?_⟩) hHeld ?_ ?_
    rotate_left
    ·rintro w' ⟨s0, s1, s2⟩
     go_simp
     with_reducible rfl
    rotate_left
    ·simp only [Act.put, sQ0, sQ1, sQ2, i64_w]
     rfl
    refine take_ (i := 5) (N := (some 38)) (v := ?_) (a' := ?_) #[tt,tt,tt,tt,tt,tt,ff,ff,ff,ff,ff] rfl rfl (take_ofW HT_.out HW_.out (by kernel_rfl)) (fun _ _ _ h => h) (Or.inl ⟨by rfl, ?_⟩) hHeld ?_ ?_
    rotate_left
    ·rintro w' ⟨s0, s1, s2⟩
     go_simp
     with_reducible rfl
    rotate_left
    ·simp only [Act.put, sQ0, sQ1, sQ2, i64_w]
     rfl
    refine one_ (i := 6) (N := (some 39)) #[tt,tt,tt,tt,tt,tt,tt,ff,ff,ff,ff] rfl rfl (one_of HT_.out (by kernel_rfl)) (by decide) (fun K hK => ?_)
    refine value_ (by rfl) rfl (v := .slice (some ⟨w3.heap.size, 0, none⟩) 1 1) (w1 := w3.alloc (.cells (evA e) 54)) (by go_simp <;> rfl) ?_
    refine hK.out _ _ (HR3.out.alloc _).cells (fun hHeld => ?_)
    clear hK K
    refine norm_ (a' := ?_) ?_ ?_
    rotate_left
    ·show Act.put _ (some 39) _ = _
     simp only [Act.put, sQ0, sQ1, sQ2, i64_w]
     rfl
    refine one_ (i := 7) (N := (some 40)) #[tt,tt,tt,tt,tt,tt,tt,tt,ff,ff,ff] rfl rfl (one_of HT_.out (by kernel_rfl)) (by decide) (fun K hK => ?_)
    refine if_wp rfl ?_
    refine RowIs.append_wp 24 96 _ _ _ Try.underlying24 ev_info rfl (by decide) rfl HR3.out.rd.st.rl e rfl (by simp [Value.oneCell']) (by rfl) (by rfl) HLL.out (by decide) HR3.out.rd.below.size ?_
    intro gg cap6 w6 hown hgrow hat
    have HP := Aside0.mk ((HR3.out.alloc _).app_l hown hgrow (by simpa using hat))
    clear hown hgrow hat
    refine hK.out _ _ HP.out.1 (fun hHeld => ?_)
    clear hK K
    refine norm_ (a' := ?_) ?_ ?_
    rotate_left
    ·show Act.put _ (some 40) _ = _
     simp only [Act.put, sQ0, sQ1, sQ2, i64_w]
     rfl
    refine pure_ (i := 8) (N := (some 41)) (v := ?_) (a' := ?_) #[tt,tt,tt,tt,tt,tt,tt,tt,tt,ff,ff] rfl rfl (any_of HT_.out (by kernel_rfl)) (fun _ _ _ h => h) (Or.inl ⟨by rfl, ?_⟩) ?_ ?_
    rotate_left
    ·intro w'
     go_simp
     with_reducible rfl
    rotate_left
    ·simp only [Act.put, sQ0, sQ1, sQ2, i64_w]
     rfl
    refine pure_ (i := 9) (N := (some 42)) (v := ?_) (a' := ?_) #[tt,tt,tt,tt,tt,tt,tt,tt,tt,tt,ff] rfl rfl (any_of HT_.out (by kernel_rfl)) (fun _ _ _ h => h) (Or.inl ⟨by rfl, ?_⟩) ?_ ?_
    rotate_left
    ·intro w'
     go_simp
     with_reducible rfl
    rotate_left
    ·simp only [Act.put, sQ0, sQ1, sQ2, i64_w]
     rfl
    refine last_ (i := 10) (N := none) #[tt,tt,tt,tt,tt,tt,tt,tt,tt,tt,tt] rfl rfl (one_of HT_.out (by kernel_rfl)) (by decide) (fun K hK => ?_)
    refine skip_ (by rfl) rfl (w1 := w6.setCell ⟨b, 0, none⟩ (.slice (some ⟨gg, 0, none⟩) (s.l.length + 1) cap6)) (by have q1 := hHeld.1 0; have q2 := hHeld.2.2 0; go_simp) ?_
    refine hK.out _ _ ?_
    clear hK K
    refine done_ (done_of HT_.out (by kernel_rfl)) ?_
    have HR7 := Aside0.mk HP.out.2
    clear HP HR2 HR3 hHeld hlt3 HH HSS CR HT_ HW_ c0 c1' c2 c3' c4 c5 c6 c7 c8 c9 c10 c11
    generalize w6.setCell ⟨b, 0, none⟩ (.slice (some ⟨gg, 0, none⟩) (s.l.length + 1) cap6) = w7 at HR7 ⊢
    have hlt := HR7.out.rd.st.lt
    have hel := blk_lt HR7.out.ev
    have hc := fun i => HR7.out.rd.st.cell i
    have hce := fun i => blk_cell HR7.out.ev i
    rcases hkind with hk1 | hk2 | hk34 | hk34 | hk5
    ·have z1 : (e.k == 1) = true := beq_iff_eq.2 (by omega)
     have z2 : (e.k == 2) = false := beq_eq_false_iff_ne.2 (by omega)
     have z5 : (e.k == 5) = false := beq_eq_false_iff_ne.2 (by omega)
     have HF := Aside0.mk (HST.out.trans (step_one hk1))
     have HCK := Aside0.mk (show clkN (gOf l) (k + 1) = e.t by rw [clk_one (by rw [HCG.out]; exact hk1), HCG.out])
     clear hk1
     go_wp2
     go_roundw
     case rel => exact ⟨k + 1, by omega, by first | rw [hnn] | simp, by rw [HCK.out], ⟨_, _, _, HF.out ▸ HR7.out.rd.up (Nat.le_succ k)⟩⟩
     case measure => first | (rw [hnn]; simp [intOf]; omega) | (simp [intOf]; omega)
    ·have z1 : (e.k == 1) = false := beq_eq_false_iff_ne.2 (by omega)
     have z2 : (e.k == 2) = true := beq_iff_eq.2 (by omega)
     have z5 : (e.k == 5) = false := beq_eq_false_iff_ne.2 (by omega)
     have HF := Aside0.mk (HST.out.trans (step_two hk2))
     have HCK := Aside0.mk (show clkN (gOf l) (k + 1) = clkN (gOf l) k from clk_not (by rw [HCG.out]; omega))
     clear hk2
     go_upto_region 14 with (fail)
     refine still_tail_at 11 (by kernel_rfl) (by kernel_rfl) fun w70 hw70 => ?_
     have HR70 := Aside0.mk (show Re w w70 b m1 m2 k { s with l := s.l ++ [e] } (.slice (some ⟨gg, 0, none⟩) (s.l.length + 1) cap6) vv (.slice A3 s.calls.length c3) wr.heap.size e by rw [hw70]; exact HR7.out.drew)
     clear hw70 hlt hel hc hce
     have hlt := HR70.out.rd.st.lt
     have hel := blk_lt HR70.out.ev
     have hc := fun i => HR70.out.rd.st.cell i
     have hce := fun i => blk_cell HR70.out.ev i
     simp only [List.take_succ_cons, List.take_zero, List.drop_succ_cons, List.drop_zero]
     repeat still_step
     refine wpStill_nil ?_
     obtain ⟨z, hz, hm⟩ := HR70.out.rd.st.mo
     refine wpl_store int_inj' rfl _ _ _ 95 rfl hm lawI Try.underlying95 (by unfold maxLen; have := HN.out; omega) (y := e.wk) (keyOf_int_mk Try.underlying3 HW.out.1) (val := .int .i64 (s.calls.length : Int)) rfl rfl rfl ?_
     intro w8 hm4 hg4
     rw [nV_updW] at hm4
     have HR8 := Aside0.mk (HR70.out.sto_o hm4 (by split <;> omega) hg4)
     clear hlt hel hc hce hm4 hg4 hm hz HR70
     go_upto_region 15 with (fail)
     refine start_ (n := 14) (S := (fun w' => (∀ i, w'.cell? ⟨b, i, none⟩ = (stA (.slice (some ⟨gg, 0, none⟩) (s.l.length + 1) cap6) vv (.slice A3 s.calls.length c3) m1 m2)[i]?) ∧ (∀ i, w'.cell? ⟨wr.heap.size, i, none⟩ = (evA e)[i]?) ∧ (∀ i, w'.frozen? ⟨b, i, none⟩ = false))) (ds := [13]) #[ff,ff,ff,ff,ff,ff,ff,ff,ff,ff,ff,ff,ff,ff] (by kernel_rfl) rfl rfl HR8.out.drew.cells (fun hHeld => ?_)
     refine with_tabW readR.tab15 readR.bits15 (fun HT_ HW_ => ?_)
     have HR9 := Aside0.mk HR8.out.drew
     generalize w8.drew = w9 at HR9 hHeld ⊢
     have hlt9 := HR9.out.rd.st.lt
     refine pure_ (i := 0) (N := (some 66)) (v := ?_) (a' := ?_) #[tt,ff,ff,ff,ff,ff,ff,ff,ff,ff,ff,ff,ff,ff] rfl rfl (any_of HT_.out (by kernel_rfl)) (fun _ _ _ h => h) (Or.inl ⟨by rfl, ?_⟩) ?_ ?_
     rotate_left
     ·intro w'
      go_simp
      with_reducible rfl
     rotate_left
     ·simp only [Act.put, sQ0, sQ1, sQ2, i64_w]
      rfl
     refine pure_ (i := 1) (N := (some 67)) (v := ?_) (a' := ?_) #[tt,tt,ff,ff,ff,ff,ff,ff,ff,ff,ff,ff,ff,ff] rfl rfl (any_of HT_.out (by kernel_rfl)) (fun _ _ _ h => h) (Or.inl ⟨by rfl, ?_⟩) ?_ ?_
     rotate_left
     ·intro w'
      go_simp
      with_reducible rfl
     rotate_left
     ·simp only [Act.put, sQ0, sQ1, sQ2, i64_w]
      rfl
     refine pure_ (i := 2) (N := (some 68)) (v := ?_) (a' := ?_) #[tt,tt,tt,ff,ff,ff,ff,ff,ff,ff,ff,ff,ff,ff] rfl rfl (any_of HT_.out (by kernel_rfl)) (fun _ _ _ h => h) (Or.inl ⟨by rfl, ?_⟩) ?_ ?_
     rotate_left
     ·intro w'
      go_simp
      with_reducible rfl
     rotate_left
     ·simp only [Act.put, sQ0, sQ1, sQ2, i64_w]
      rfl
     refine pure_ (i := 3) (N := (some 69)) (v := ?_) (a' := ?_) #[tt,tt,tt,tt,ff,ff,ff,ff,ff,ff,ff,ff,ff,ff] rfl rfl (any_of HT_.out (by kernel_rfl)) (fun _ _ _ h => h) (Or.inl ⟨by rfl, ?_⟩) ?_ ?_
     rotate_left
     ·intro w'
      go_simp
      with_reducible rfl
     rotate_left
     ·simp only [Act.put, sQ0, sQ1, sQ2, i64_w]
      rfl
     refine pure_ (i := 6) (N := (some 72)) (v := ?_) (a' := ?_) #[tt,tt,tt,tt,ff,ff,tt,ff,ff,ff,ff,ff,ff,ff] rfl rfl (any_of HT_.out (by kernel_rfl)) (fun _ _ _ h => h) (Or.inl ⟨by rfl, ?_⟩) ?_ ?_
     rotate_left
     ·intro w'
      go_simp
      with_reducible rfl
     rotate_left
     ·simp only [Act.put, sQ0, sQ1, sQ2, i64_w]
      rfl
     refine pure_ (i := 7) (N := (some 73)) (v := ?_) (a' := ?_) #[tt,tt,tt,tt,ff,ff,tt,tt,ff,ff,ff,ff,ff,ff] rfl rfl (any_of HT_.out (by kernel_rfl)) (fun _ _ _ h => h) (Or.inl ⟨by rfl, ?_⟩) ?_ ?_
     rotate_left
     ·intro w'
      go_simp
      with_reducible rfl
     rotate_left
     ·simp only [Act.put, sQ0, sQ1, sQ2, i64_w]
      rfl
     refine take_ (i := 4) (N := (some 70)) (v := ?_) (a' := ?_) #[tt,tt,tt,tt,tt,ff,tt,tt,ff,ff,ff,ff,ff,ff] rfl rfl (take_ofW HT_.out HW_.out (by kernel_rfl)) (fun _ _ _ h => h) (Or.inl ⟨by rfl, ?_⟩) hHeld ?_ ?_
     rotate_left
     ·rintro w' ⟨s0, s1, s2⟩
      go_simp
      with_reducible rfl
     rotate_left
     ·simp only [Act.put, sQ0, sQ1, sQ2, i64_w]
      rfl
     refine take_ (i := 5) (N := (some 71)) (v := ?_) (a' := ?_) #[tt,tt,tt,tt,tt,tt,tt,tt,ff,ff,ff,ff,ff,ff] rfl rfl (take_ofW HT_.out HW_.out (by kernel_rfl)) (fun _ _ _ h => h) (Or.inl ⟨by rfl, ?_⟩) hHeld ?_ ?_
     rotate_left
     ·rintro w' ⟨s0, s1, s2⟩
      go_simp
      with_reducible rfl
     rotate_left
     ·simp only [Act.put, sQ0, sQ1, sQ2, i64_w]
      rfl
     refine pure_ (i := 8) (N := (some 74)) (v := ?_) (a' := ?_) #[tt,tt,tt,tt,tt,tt,tt,tt,tt,ff,ff,ff,ff,ff] rfl rfl (any_of HT_.out (by kernel_rfl)) (fun _ _ _ h => h) (Or.inl ⟨by rfl, ?_⟩) ?_ ?_
     rotate_left
     ·intro w'
      go_simp
      with_reducible rfl
     rotate_left
     ·simp only [Act.put, sQ0, sQ1, sQ2, i64_w]
      rfl
     refine one_ (i := 9) (N := (some 75)) #[tt,tt,tt,tt,tt,tt,tt,tt,tt,tt,ff,ff,ff,ff] rfl rfl (one_of HT_.out (by kernel_rfl)) (by decide) (fun K hK => ?_)
     refine value_ (by rfl) rfl (v := .slice (some ⟨w9.heap.size, 0, none⟩) 1 1) (w1 := w9.alloc (.cells (clA ⟨e, (k : Int), clkN (gOf l) k, -1⟩) 103)) (by go_simp <;> rfl) ?_
     refine hK.out _ _ (HR9.out.alloc _).cells (fun hHeld => ?_)
     clear hK K
     refine norm_ (a' := ?_) ?_ ?_
     rotate_left
     ·show Act.put _ (some 75) _ = _
      simp only [Act.put, sQ0, sQ1, sQ2, i64_w]
      rfl
     refine one_ (i := 10) (N := (some 76)) #[tt,tt,tt,tt,tt,tt,tt,tt,tt,tt,tt,ff,ff,ff] rfl rfl (one_of HT_.out (by kernel_rfl)) (by decide) (fun K hK => ?_)
     refine if_wp rfl ?_
     refine RowIs.append_wp 94 120 _ _ _ Try.underlying94 cl_info rfl (by decide) rfl HR9.out.rd.st.rc ⟨e, (k : Int), clkN (gOf l) k, -1⟩ rfl (by simp [Value.oneCell']) (by rfl) (by rfl) HLC.out (by decide) HR9.out.rd.below.size ?_
     intro gc capc w10 hown hgrow hat
     have HP9 := Aside0.mk ((HR9.out.alloc _).app_c hown hgrow)
     clear hown hgrow hat
     refine hK.out _ _ HP9.out.1 (fun hHeld => ?_)
     clear hK K
     refine norm_ (a' := ?_) ?_ ?_
     rotate_left
     ·show Act.put _ (some 76) _ = _
      simp only [Act.put, sQ0, sQ1, sQ2, i64_w]
      rfl
     refine pure_ (i := 11) (N := (some 77)) (v := ?_) (a' := ?_) #[tt,tt,tt,tt,tt,tt,tt,tt,tt,tt,tt,tt,ff,ff] rfl rfl (any_of HT_.out (by kernel_rfl)) (fun _ _ _ h => h) (Or.inl ⟨by rfl, ?_⟩) ?_ ?_
     rotate_left
     ·intro w'
      go_simp
      with_reducible rfl
     rotate_left
     ·simp only [Act.put, sQ0, sQ1, sQ2, i64_w]
      rfl
     refine pure_ (i := 12) (N := (some 78)) (v := ?_) (a' := ?_) #[tt,tt,tt,tt,tt,tt,tt,tt,tt,tt,tt,tt,tt,ff] rfl rfl (any_of HT_.out (by kernel_rfl)) (fun _ _ _ h => h) (Or.inl ⟨by rfl, ?_⟩) ?_ ?_
     rotate_left
     ·intro w'
      go_simp
      with_reducible rfl
     rotate_left
     ·simp only [Act.put, sQ0, sQ1, sQ2, i64_w]
      rfl
     refine last_ (i := 13) (N := none) #[tt,tt,tt,tt,tt,tt,tt,tt,tt,tt,tt,tt,tt,tt] rfl rfl (one_of HT_.out (by kernel_rfl)) (by decide) (fun K hK => ?_)
     refine skip_ (by rfl) rfl (w1 := w10.setCell ⟨b, 3, none⟩ (.slice (some ⟨gc, 0, none⟩) (s.calls.length + 1) capc)) (by have q1 := hHeld.1 3; have q2 := hHeld.2.2 3; go_simp) ?_
     refine hK.out _ _ ?_
     clear hK K
     refine done_ (done_of HT_.out (by kernel_rfl)) ?_
     go_wp2
     go_roundw
     case rel => exact ⟨k + 1, by omega, by first | rw [hnn] | simp, by rw [HCK.out], ⟨_, _, _, HF.out ▸ HP9.out.2⟩⟩
     case measure => first | (rw [hnn]; simp [intOf]; omega) | (simp [intOf]; omega)
    ·have z1 : (e.k == 1) = false := beq_eq_false_iff_ne.2 (by omega)
     have z2 : (e.k == 2) = false := beq_eq_false_iff_ne.2 (by omega)
     have z5 : (e.k == 5) = false := beq_eq_false_iff_ne.2 (by omega)
     have HF := Aside0.mk (HST.out.trans (step_turn (.inl hk34)))
     have HCK := Aside0.mk (show clkN (gOf l) (k + 1) = clkN (gOf l) k from clk_not (by rw [HCG.out]; omega))
     have CT := Aside0.mk (turn_any (s := { s with l := s.l ++ [e] }) k e w7 HR7.out.rd.st (keyH e.hn e.hg HW.out.2.1 HW.out.2.2.1) (keyH e.nn e.ng HW.out.2.2.2.1 HW.out.2.2.2.2) (by have := HN.out; omega) HLV.out HAT.out (by omega))
     clear hk34
     go_wp2_with (go_at_call 84; (with_reducible refine CT.out.mono ?_); rintro r w8 ⟨rfl, vv8, hS8, hF8⟩; have HR8 := Aside0.mk (show Rd w w8 b m1 m2 (k + 1) _ _ _ _ from ⟨hS8, HR7.out.rd.below.trans (hF8.below HR7.out.rd.below.size (by rintro g (q | q | q); (rw [q]; exact HR7.out.rd.st.hb); (rw [q]; exact HR7.out.rd.st.h1); exact (HR7.out.rd.st.rv.lt g q.symm).1))⟩); clear hS8 hF8)
     go_roundw
     case rel => exact ⟨k + 1, by omega, by first | rw [hnn] | simp, by rw [HCK.out], ⟨_, _, _, HF.out ▸ HR8.out⟩⟩
     case measure => first | (rw [hnn]; simp [intOf]; omega) | (simp [intOf]; omega)
    ·have z1 : (e.k == 1) = false := beq_eq_false_iff_ne.2 (by omega)
     have z2 : (e.k == 2) = false := beq_eq_false_iff_ne.2 (by omega)
     have z5 : (e.k == 5) = false := beq_eq_false_iff_ne.2 (by omega)
     have HF := Aside0.mk (HST.out.trans (step_turn (.inr hk34)))
     have HCK := Aside0.mk (show clkN (gOf l) (k + 1) = clkN (gOf l) k from clk_not (by rw [HCG.out]; omega))
     have CT := Aside0.mk (turn_any (s := { s with l := s.l ++ [e] }) k e w7 HR7.out.rd.st (keyH e.hn e.hg HW.out.2.1 HW.out.2.2.1) (keyH e.nn e.ng HW.out.2.2.2.1 HW.out.2.2.2.2) (by have := HN.out; omega) HLV.out HAT.out (by omega))
     clear hk34
     go_wp2_with (go_at_call 84; (with_reducible refine CT.out.mono ?_); rintro r w8 ⟨rfl, vv8, hS8, hF8⟩; have HR8 := Aside0.mk (show Rd w w8 b m1 m2 (k + 1) _ _ _ _ from ⟨hS8, HR7.out.rd.below.trans (hF8.below HR7.out.rd.below.size (by rintro g (q | q | q); (rw [q]; exact HR7.out.rd.st.hb); (rw [q]; exact HR7.out.rd.st.h1); exact (HR7.out.rd.st.rv.lt g q.symm).1))⟩); clear hS8 hF8)
     go_roundw
     case rel => exact ⟨k + 1, by omega, by first | rw [hnn] | simp, by rw [HCK.out], ⟨_, _, _, HF.out ▸ HR8.out⟩⟩
     case measure => first | (rw [hnn]; simp [intOf]; omega) | (simp [intOf]; omega)
    ·have z1 : (e.k == 1) = false := beq_eq_false_iff_ne.2 (by omega)
     have z2 : (e.k == 2) = false := beq_eq_false_iff_ne.2 (by omega)
     have z5 : (e.k == 5) = true := beq_iff_eq.2 (by omega)
     have HCK := Aside0.mk (show clkN (gOf l) (k + 1) = clkN (gOf l) k from clk_not (by rw [HCG.out]; omega))
     have hl0 := fun q => HR7.out.look HW.out.1 (w7.drewN q) rfl
     cases ho : s.opn e.wk with
     | none =>
      have HF := Aside0.mk (HST.out.trans ((step_five hk5).trans (back_none ho)))
      simp only [ho, Option.map_none, Option.getD_none, Option.isSome_none] at hl0
      clear hk5 ho
      go_wp2
      go_quiet (fail)
      go_wp2
      go_quiet (fail)
      go_wp2
      go_roundw
      case rel => exact ⟨k + 1, by omega, by first | rw [hnn] | simp, by rw [HCK.out], ⟨_, _, _, HF.out ▸ ((HR7.out.drewN _).rd.up (Nat.le_succ k))⟩⟩
      case measure => first | (rw [hnn]; simp [intOf]; omega) | (simp [intOf]; omega)
     | some j =>
      obtain ⟨q, hq⟩ := HOP.out e.wk j ho
      simp only [ho, Option.map_some, Option.getD_some, Option.isSome_some] at hl0
      obtain ⟨g5, c5, hv5, hcp, hgl, hcell⟩ := HR7.out.rd.st.rc.at_ (fun _ => rfl) hq
      injection hv5 with hv1 hv2 hv3
      subst hv1
      have hjl : j < s.calls.length := (List.getElem?_eq_some_iff.1 hq).1
      have p0j := eq_true (show (0 : Int) ≤ (j : Int) by omega)
      have p1j := eq_true (show (j : Int) < (s.calls.length : Int) by omega)
      have d2 := hcell 2 (by decide)
      have d14 := hcell 14 (by decide)
      clear hcell hv2 hcp hjl
      by_cases hop : q.e.op = e.op
      ·have yo : (q.e.op == e.op) = true := beq_iff_eq.2 hop
       by_cases hen : q.en < 0
       ·have ye : decide (q.en < 0) = true := decide_eq_true hen
        have HF := Aside0.mk (HST.out.trans ((step_five hk5).trans (back_set ho hq ⟨hop, hen⟩)))
        obtain ⟨cur, hcur⟩ := HR7.out.rd.st.rc.own (show (Value.slice (some ⟨g5, 0, none⟩) s.calls.length c3).ownBlock = some g5 from rfl)
        have fz := blk_frozen hcur (j * 15 + 14)
        have HQ := Aside0.mk hq
        clear hk5 ho hop hen hcur hq
        go_wp2
        go_quiet (fail)
        go_wp2
        go_quiet (fail)
        go_wp2
        go_roundw
        case rel => exact ⟨k + 1, by omega, by first | rw [hnn] | simp, by rw [HCK.out], ⟨_, _, _, HF.out ▸ (((HR7.out.drewN _).rd.put_c (k : Int) HQ.out).up (Nat.le_succ k))⟩⟩
        case measure => first | (rw [hnn]; simp [intOf]; omega) | (simp [intOf]; omega)
       ·have ye : decide (q.en < 0) = false := decide_eq_false hen
        have HF := Aside0.mk (HST.out.trans ((step_five hk5).trans (back_keep ho hq (fun z => hen z.2))))
        clear hk5 ho hop hen hq
        go_wp2
        go_quiet (fail)
        go_wp2
        go_quiet (fail)
        go_wp2
        go_roundw
        case rel => exact ⟨k + 1, by omega, by first | rw [hnn] | simp, by rw [HCK.out], ⟨_, _, _, HF.out ▸ ((HR7.out.drewN _).rd.up (Nat.le_succ k))⟩⟩
        case measure => first | (rw [hnn]; simp [intOf]; omega) | (simp [intOf]; omega)
      ·have yo : (q.e.op == e.op) = false := beq_eq_false_iff_ne.2 hop
       have HF := Aside0.mk (HST.out.trans ((step_five hk5).trans (back_keep ho hq (fun z => hop z.1))))
       clear hk5 ho hop hq
       go_wp2
       go_quiet (fail)
       go_wp2
       go_quiet (fail)
       go_wp2
       go_roundw
       case rel => exact ⟨k + 1, by omega, by first | rw [hnn] | simp, by rw [HCK.out], ⟨_, _, _, HF.out ▸ ((HR7.out.drewN _).rd.up (Nat.le_succ k))⟩⟩
       case measure => first | (rw [hnn]; simp [intOf]; omega) | (simp [intOf]; omega)
  ·have q0 : ((k : Int) < (l.length : Int)) = False := eq_false (by omega)
   have hkl : k = l.length := by omega
   subst hkl
   obtain ⟨vl, vv, vc, hS⟩ := HS.out
   have HSS := Aside0.mk hS
   clear hS HS
   go_wp2
   go_ret
   exact ⟨b, m1, m2, vl, vv, vc, rfl, HSS.out.st, HSS.out.below⟩
end Go.Proofs.Ythniclbmpeklmaa.Au
end
section
namespace Go.Proofs.Ythniclbmpeklmaa.Au
open Go.RowKit Go.Maps Go.Proofs.YthniclbmpeklmaaW.PrintWords Go.Proofs.YthniclbmpeklmaaW.PrintLast Go.Proofs.YthniclbmpeklmaaW.PrintMore Go.Proofs.Ythniclbmpeklmaa.Mp
set_option linter.unusedVariables false
set_option linter.unusedSimpArgs false
theorem two_alloc (w : World) (o o' : Obj) : ((w.alloc o).alloc o').heap[w.heap.size + 1]? = some o' := by simpa using blk_new (w.alloc o) o'
attribute [local go_sem high] Ev.eqHa
end Go.Proofs.Ythniclbmpeklmaa.Au
end
section
namespace Go.Proofs.Ythniclbmpeklmaa.Au
open Go.RowKit Go.Maps Go.Proofs.YthniclbmpeklmaaW.PrintWords Go.Proofs.YthniclbmpeklmaaW.PrintLast Go.Proofs.YthniclbmpeklmaaW.PrintMore Go.Proofs.Ythniclbmpeklmaa.Mp
set_option linter.unusedVariables false
set_option linter.unusedSimpArgs false
def FirstPost (p : Nat → Bool) (n : Nat) (I : Nat → World → Prop) (e : Ending) (w' : World) : Prop := e = .returned (.int .i64 (oI (firstN p n))) ∧ ∃ i, I i w'
set_option maxHeartbeats 4000000 in
set_option maxRecDepth 100000 in
theorem first_twice {B b n m1 m2 : Nat} {s : Story} {vl vv vc : Value} (cap : Array Value) (kind : Int) (p : Nat → Bool) (I : Nat → World → Prop) (hn : s.l.length ≤ 1000000)
  (hS : ∀ i W, I i W → StIs W B b n s vl vv vc m1 m2)
  (hB : ∀ i W W', I i W → Below W.heap.size W W' → I i W')
  (hskip : ∀ (i : Nat) e W, s.l[i]? = some e → e.k ≠ kind → I i W → I (i + 1) W ∧ p i = false)
  (hcall : ∀ (i : Nat) e W, s.l[i]? = some e → e.k = kind → I i W → Calls Try.prog 49 (#[.int .i64 (i : Int), .agg (evA e)] ++ cap) W fun r W' => r = .returned (.bool (p i)) ∧ I (i + 1) W') (w : World) (h0 : I 0 w) :
  Calls Try.prog 48 #[.pointer (some ⟨b, 0, none⟩), .int .i64 kind, .func (.func 49) #[] cap] w (FirstPost p s.l.length I) := by
 have hu97 := Try.underlying97
 have hu54 := Try.underlying54
 obtain ⟨A0, c0, rfl, hc0⟩ := (hS 0 w h0).rl.form
 have hlt := (hS 0 w h0).lt
 have hc := fun i => (hS 0 w h0).cell i
 have HS := Aside0.mk hS
 have HB := Aside0.mk hB
 have HK := Aside0.mk hskip
 have HC := Aside0.mk hcall
 have HN := Aside0.mk hn
 have HI := Aside0.mk h0
 clear hS hB hskip hcall h0 hn hc0
 go_enter Try.func48, Try.ntmps48
 go_wp2
 go_loopw [14] (fun i wr => ∃ k : Nat, k ≤ s.l.length ∧ i = .int .i64 k ∧ Aside0 (I k wr ∧ firstN p k = none)) (fun i _ => s.l.length - (intOf i).toNat)
 case atStart => exact ⟨0, by omega, rfl, ⟨HI.out, rfl⟩⟩
 case round =>
  clear HI hlt hc
  obtain ⟨k, hk, rfl, HI⟩ := hrel
  rcases Nat.lt_or_ge k s.l.length with hlt | hge
  ·have p0 : (0 : Int) ≤ (k : Int) := by omega
   have q0 : (k : Int) < (s.l.length : Int) := by omega
   obtain ⟨e, he⟩ : ∃ e, s.l[k]? = some e := ⟨_, List.getElem?_eq_getElem hlt⟩
   obtain ⟨g, cp, hv, hcp, hgl, hcell⟩ := (HS.out k wr HI.out.1).rl.at_ (fun _ => rfl) he
   injection hv with hv1 hv2 hv3
   subst hv1
   have HE := Aside0.mk he
   have hnn : wrap64 ((k : Int) + 1) = ((k + 1 : Nat) : Int) := by have := HN.out; unfold wrap64; omega
   have c0 := hcell 0 (by decide)
   have c1 := hcell 1 (by decide)
   have c2 := hcell 2 (by decide)
   have c3 := hcell 3 (by decide)
   have c4 := hcell 4 (by decide)
   have c5 := hcell 5 (by decide)
   have c6 := hcell 6 (by decide)
   have c7 := hcell 7 (by decide)
   have c8 := hcell 8 (by decide)
   have c9 := hcell 9 (by decide)
   have c10 := hcell 10 (by decide)
   have c11 := hcell 11 (by decide)
   rw [Nat.add_zero] at c0
   replace q0 := eq_true q0
   replace p0 := eq_true p0
   clear hcell he hv2 hv3
   by_cases hkd : e.k = kind
   ·have HCC : Aside0 (∀ W, I k W → Calls Try.prog 49 (#[.int .i64 (k : Int), .agg (evA e)] ++ cap) W fun r W' => r = .returned (.bool (p k)) ∧ I (k + 1) W') := ⟨fun W hW => HC.out k e W HE.out hkd hW⟩
    have hkd' : (e.k == kind) = true := beq_iff_eq.2 hkd
    have HB1 : Aside0 (I k (wr.alloc (.cells (evA e) 54))) := ⟨HB.out k _ _ HI.out.1 (below_alloc (Below.refl _ _) _)⟩
    clear hkd
    cases hp : p k with
    | true =>
     rw [hp] at HCC
     go_wp2_with (go_at_call 49; (with_reducible refine (HCC.out _ HB1.out).mono ?_); rintro r w2 ⟨rfl, hI2⟩; have HI2 := Aside0.mk hI2; clear hI2)
     go_ret
     exact ⟨by rw [firstN_mk hlt hp (firstN_none HI.out.2)]; rfl, _, HI2.out⟩
    | false =>
     rw [hp] at HCC
     go_wp2_with (go_at_call 49; (with_reducible refine (HCC.out _ HB1.out).mono ?_); rintro r w2 ⟨rfl, hI2⟩; have HI2 := Aside0.mk hI2; clear hI2)
     go_roundw
     case rel => exact ⟨k + 1, by omega, by first | rw [hnn] | simp, ⟨HI2.out, by rw [firstN_succ_none HI.out.2, hp]; rfl⟩⟩
     case measure => first | (rw [hnn]; simp [intOf]; omega) | (simp [intOf]; omega)
   ·have hkd' : (e.k == kind) = false := beq_eq_false_iff_ne.2 hkd
    have HB1 := Aside0.mk (HK.out k e wr HE.out hkd HI.out.1)
    clear hkd
    go_wp2
    go_roundw
    case rel => exact ⟨k + 1, by omega, by first | rw [hnn] | simp, ⟨HB.out (k + 1) _ _ HB1.out.1 (below_alloc (Below.refl _ _) _), by rw [firstN_succ_none HI.out.2, HB1.out.2]; rfl⟩⟩
    case measure => first | (rw [hnn]; simp [intOf]; omega) | (simp [intOf]; omega)
  ·have q0 : ((k : Int) < (s.l.length : Int)) = False := eq_false (by omega)
   have hkl : k = s.l.length := by omega
   have HKL := Aside0.mk hkl
   clear hkl
   go_wp2
   go_ret
   exact ⟨by rw [← HKL.out, HI.out.2]; rfl, _, HI.out.1⟩
end Go.Proofs.Ythniclbmpeklmaa.Au
end
section
namespace Go.Proofs.Ythniclbmpeklmaa.Au
open Go.RowKit Go.Maps Go.Proofs.YthniclbmpeklmaaW.PrintWords Go.Proofs.YthniclbmpeklmaaW.PrintLast Go.Proofs.YthniclbmpeklmaaW.PrintMore Go.Proofs.Ythniclbmpeklmaa.Mp
set_option linter.unusedVariables false
set_option linter.unusedSimpArgs false
theorem wf_g {l : List Ev} (hwf : ∀ e ∈ l, wfE e) {i : Nat} (hi : i < l.length) : wfE (gOf l i) := by
 rw [g_at (List.getElem?_eq_getElem hi)]
 unfold clE
 split
 ·exact hwf _ (List.getElem_mem hi)
 ·exact ⟨by decide, by decide, by decide, by decide, by decide⟩
theorem get_l {l : List Ev} (hn : l.length ≤ 1000000) {i : Nat} {e : Ev} (h : (storyN (gOf l) l.length).l[i]? = some e) : i < l.length ∧ e = gOf l i := by
 have INV := inv_all (gOf l) l.length (by unfold noEnd; omega)
 have hi : i < l.length := by have := (List.getElem?_eq_some_iff.1 h).1; rw [INV.len] at this; exact this
 exact ⟨hi, Option.some.inj (h.symm.trans (INV.l i hi))⟩
end Go.Proofs.Ythniclbmpeklmaa.Au
end
