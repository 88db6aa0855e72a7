/- What is proved: an entry of a map that is read as a function, opened and then stored (as in an increment of an element), whatever stands between; for every program and key type that has the kit's law. -/
import Derived.Test.YthniclbmpeklmaaMq
import Derived.WideKeyEntry
namespace Go.Proofs.Ythniclbmpeklmaa.Mp
open Go.RowKit Go.Maps
open Go.WideMaps (KeyLaw)
open Go.ChangeMaps Go.WideElems Go.MapKept
section
variable {κ : Type} [DecidableEq κ] {c : κ → Value} {P : Program} {k t e : TypeId} {w : World} {b s : Nat} {f : κ → Option Value}
theorem setBlock_at {w : World} {b : Nat} {o o' : Obj} (h : w.heap[b]? = some o) : (setBlock w b o').heap[b]? = some o' := by
  have hb : b < w.heap.size := (Array.getElem?_eq_some_iff.1 h).1
  simp [setBlock, hb]
theorem setBlock_far (w : World) (b : Nat) (o' : Obj) {g : Nat} (hg : g ≠ b) : (setBlock w b o').heap[g]? = w.heap[g]? := by
  simp [setBlock, Ne.symm hg]
theorem setBlock_grown (w : World) (b : Nat) (o' : Obj) : w.grownBy (setBlock w b o') (some b) :=
  ⟨rfl, rfl, rfl, by simp [setBlock], fun g _ hg => setBlock_far w b o' (fun q => hg (by rw [q]))⟩
theorem MapIs.block {κ : Type} {c : κ → Value} {P : Program} {k : TypeId} {w : World} {b s : Nat} {f : κ → Option Value} (h : MapIs c P k w b s f) : ∃ es clock, w.heap[b]? = some (.map es clock) := by
  obtain ⟨D, ⟨es, cl, hb, _⟩, _⟩ := h
  exact ⟨es, cl, hb⟩
theorem MapIs.size_is {κ : Type} {c : κ → Value} {P : Program} {k : TypeId} {w : World} {b s : Nat} {f : κ → Option Value} (h : MapIs c P k w b s f) {es : Array MapEntry} {clock : Nat} (hb : w.heap[b]? = some (.map es clock)) : s = es.size := by
  obtain ⟨D, ⟨es', cl, hb', _, _, hD⟩, hs, _⟩ := h
  rw [hb] at hb'
  injection hb' with hb'
  injection hb' with hb' _
  rw [← hs, hD, hb']
  simp [Maps.size, length_sorted]
theorem entry_where {H : Type} {R : Value → Option (DataW H × List MemPlace)} {es : Array MapEntry} {clock : Nat} (K : KeyLaw P k) (ht : P.underlying t = some (.map k e)) {z : Value} (hz : ∀ u : World, (zeroValue e).run P u = .ok z u) (hb : w.heap[b]? = some (.map es clock)) (F : Fit P k R es clock) {key : Value} {kl : Lit} (hkey : keyOf P k key = some kl) :
    ∃ (v0 : Value) (st : Nat), (Instr.mapEntry t (.map (some b)) key).run P w = .ok (.tuple #[v0, goInt st]) (setBlock w b (.map es clock)) ∨
      ((Instr.mapEntry t (.map (some b)) key).run P w = .ok (.tuple #[v0, goInt st]) (setBlock w b (.map (es.push ⟨key, z, clock⟩) (clock + 1))) ∧ (Instr.mapUpdate t (.map (some b)) key z).run P w = .ok () (setBlock w b (.map (es.push ⟨key, z, clock⟩) (clock + 1))) ∧ ∀ x ∈ es.toList, x.key ≠ key) := by
  rcases K.find w hkey es.toList F.keys with ⟨h1, h2⟩ | ⟨j, e0, h1, h2, h3⟩
  · refine ⟨z, clock, .inr ⟨?_, ?_, h2⟩⟩
    · simp [Instr.mapEntry, run_underlying ht, MapKept.run_getObj_map hb, K.check w false hkey, h1, hz, MapKept.run_setObj_map _ hb, Result.andThen, setBlock]
    · simp [Instr.mapUpdate, run_underlying ht, MapKept.run_getObj_map hb, K.check w false hkey, h1, MapKept.run_setObj_map _ hb, Result.andThen, setBlock]
  · have hj : es[j]? = some e0 := by simpa using h2
    have hsame : es.modify j (fun e => { e with key := key }) = es := by
      apply Array.ext'
      rw [Array.toList_modify, modify_eq_set _ _ _ _ h2]
      have : ({ e0 with key := key } : MapEntry) = e0 := by rw [← h3]
      rw [this]
      exact set_self _ _ _ h2
    refine ⟨e0.val, e0.born, .inl ?_⟩
    simp [Instr.mapEntry, run_underlying ht, MapKept.run_getObj_map hb, K.check w false hkey, h1, hj, h3, K.stays w hkey, hsame, MapKept.run_setObj_map _ hb, Result.andThen, setBlock]
theorem MapIs.entry (hc : ∀ x y, c x = c y → x = y) (h : MapIs c P k w b s f) (KL : KeyLaw P k) (ht : P.underlying t = some (.map k e)) {z : Value} (hz : ∀ u : World, (zeroValue e).run P u = .ok z u) (hn : s < maxLen) {x : κ} {kl : Lit} (hkey : keyOf P k (c x) = some kl) :
    ∃ (v0 : Value) (st : Nat) (w1 : World), (Instr.mapEntry t (.map (some b)) (c x)).run P w = .ok (.tuple #[v0, goInt st]) w1 ∧ w.grownBy w1 (some b) ∧
      (∃ s1 f1, MapIs c P k w1 b s1 f1 ∧ (f1 x).getD z = (f x).getD z) ∧
      ∀ (w2 : World) (val : Value), w2.heap[b]? = w1.heap[b]? → ∃ w3, (Instr.entryStore t (.map (some b)) (goInt st) val).run P w2 = .ok () w3 ∧ MapIs c P k w3 b (if (f x).isSome then s else s + 1) (fun l => if l = x then some val else f l) ∧ w2.grownBy w3 (some b) := by
  have h0 := h
  obtain ⟨D, ⟨es, clock, hb, F, _, hD⟩, hs, hf⟩ := h
  obtain ⟨v0, st, es1, clock1, r1, _, r2⟩ := entry_then_store KL ht hz hb F hkey
  obtain ⟨v0', st', r3⟩ := entry_where KL ht hz hb F hkey
  have hw1 : (setBlock w b (.map es1 clock1)).heap[b]? = some (.map es1 clock1) := setBlock_at hb
  refine ⟨v0, st, _, r1, setBlock_grown _ _ _, ?_, fun w2 val h2 => ?_⟩
  · rcases r3 with r3 | ⟨r3, r4, hno⟩
    · have e1 := r1.symm.trans r3
      injection e1 with _ e1
      refine ⟨s, f, ?_, rfl⟩
      rw [e1]
      exact h0.move (by rw [setBlock_at hb, hb])
    · have e1 := r1.symm.trans r3
      injection e1 with _ e1
      obtain ⟨w', q1, q2, _⟩ := h0.store hc (Keyed.of_law KL) ht hn hkey z
      have e2 := q1.symm.trans r4
      injection e2 with _ e2
      subst e2
      refine ⟨if (f x).isSome then s else s + 1, fun l => if l = x then some z else f l, ?_, ?_⟩
      · rw [e1]; exact q2
      · show (if x = x then some z else f x).getD z = _
        rw [if_pos rfl, Option.getD_some]
        rcases hf x kl hkey with ⟨a1, a2⟩ | ⟨y, a1, a2, a3⟩
        · rw [a1]; rfl
        · exfalso
          have n1 := h0.size_is hb
          have n2 := q2.size_is (setBlock_at hb)
          rw [a1, if_pos (show (some y).isSome = true from rfl), Array.size_push] at n2
          omega
  · obtain ⟨es', clock', r5, r6⟩ := r2 w2 val (h2.trans hw1)
    obtain ⟨w', q1, q2, _⟩ := h0.store hc (Keyed.of_law KL) ht hn hkey val
    have e2 := q1.symm.trans r6
    injection e2 with _ e2
    subst e2
    refine ⟨_, r5, q2.move ?_, setBlock_grown _ _ _⟩
    rw [setBlock_at (h2.trans hw1), setBlock_at hb]
end
end Go.Proofs.Ythniclbmpeklmaa.Mp
