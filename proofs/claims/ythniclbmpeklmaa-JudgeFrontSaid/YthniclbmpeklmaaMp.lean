/- What is proved: a map in memory as a function from keys to values, with its length: making, looking up, storing, deleting; for every program and key type that has the kit's law. -/
import Derived.Maps.OwnSet
import Derived.DeepKeys4
namespace Go.Proofs.Ythniclbmpeklmaa.Mp
open Go.RowKit Go.Maps
set_option linter.unusedSectionVars false
/-- A value read as itself. -/
def tokR (v : Value) : Option (DataW Value × List MemPlace) := some (.held v, [])
/-- Block b is a map of s entries that has the value f x at the key c x (if that is one). -/
def MapIs {κ : Type} (c : κ → Value) (P : Program) (k : TypeId) (w : World) (b s : Nat) (f : κ → Option Value) : Prop :=
  ∃ D : DataW Value, w.ownsMap P k tokR b s D ∧ Maps.size D = s ∧ ∀ x l, keyOf P k (c x) = some l → (f x = none ∧ has D l = false) ∨ ∃ v, f x = some v ∧ has D l = true ∧ ∀ z, D.atKey l z = .held v
section
variable {κ : Type} [DecidableEq κ] {c : κ → Value} {P : Program} {k t e : TypeId} {w : World} {b s : Nat} {f : κ → Option Value}

theorem owns_exact {H : Type} {R : Value → Option (DataW H × List MemPlace)} {n : Nat} {D : DataW H} (h : w.ownsMap P k R b n D) : w.ownsMap P k R b (Maps.size D) D := by
  obtain ⟨es, clock, hb, F, _, rfl⟩ := h
  exact ⟨es, clock, hb, F, by simp [Maps.size, length_sorted], rfl⟩

omit [DecidableEq κ] in
theorem MapIs.made (w : World) (P : Program) (k : TypeId) : MapIs c P k (w.alloc (.map #[] 0)) w.heap.size 0 (fun _ => none) :=
  ⟨.map [], World.ownsMap_made w P k tokR, rfl, fun _ _ _ => .inl ⟨rfl, rfl⟩⟩

theorem MapIs.lt (h : MapIs c P k w b s f) : b < w.heap.size := by obtain ⟨D, h, _⟩ := h; exact h.lt
theorem MapIs.move {w' : World} (h : MapIs c P k w b s f) (hb : w'.heap[b]? = w.heap[b]?) : MapIs c P k w' b s f := by
  obtain ⟨D, ⟨es, clock, h1, h2⟩, h3⟩ := h
  exact ⟨D, ⟨es, clock, hb.trans h1, h2⟩, h3⟩

theorem tok_inv {v : Value} {z : DataW Value × List MemPlace} (h : tokR v = some z) : z = (.held v, []) := (Option.some.inj h).symm

theorem MapIs.look_ok (h : MapIs c P k w b s f) (K : Keyed P k) (ht : P.underlying t = some (.map k e)) {z : Value} (hz : (zeroValue e).run P w = .ok z w) {x : κ} {kl : Lit} (hkey : keyOf P k (c x) = some kl) :
    (Instr.lookup t (.map (some b)) (c x) true).run P w = .ok (.tuple #[(f x).getD z, .bool (f x).isSome]) w := by
  obtain ⟨D, ho, _, hf⟩ := h
  obtain ⟨v, ps, hrun, hv⟩ := ho.look_ok K ht hz (zd := .held z) (zp := []) rfl hkey
  rw [hrun]
  have hv' := congrArg Prod.fst (Option.some.inj hv)
  rcases hf x kl hkey with ⟨h1, h2⟩ | ⟨y, h1, h2, h3⟩
  · rw [h1, h2]
    rw [atKey_of_not_has h2] at hv'
    injection hv' with hv'
    rw [hv']; rfl
  · rw [h1, h2]
    rw [h3] at hv'
    injection hv' with hv'
    rw [hv']; rfl

theorem MapIs.look (h : MapIs c P k w b s f) (K : Keyed P k) (ht : P.underlying t = some (.map k e)) {z : Value} (hz : (zeroValue e).run P w = .ok z w) {x : κ} {kl : Lit} (hkey : keyOf P k (c x) = some kl) :
    (Instr.lookup t (.map (some b)) (c x) false).run P w = .ok ((f x).getD z) w := by
  obtain ⟨D, ho, _, hf⟩ := h
  obtain ⟨v, ps, hrun, hv⟩ := ho.lookup K ht hz (zd := .held z) (zp := []) rfl hkey
  rw [hrun]
  have hv' := congrArg Prod.fst (Option.some.inj hv)
  rcases hf x kl hkey with ⟨h1, h2⟩ | ⟨y, h1, h2, h3⟩
  · rw [h1]
    rw [atKey_of_not_has h2] at hv'
    injection hv' with hv'
    rw [hv']; rfl
  · rw [h1]
    rw [h3] at hv'
    injection hv' with hv'
    rw [hv']; rfl

theorem MapIs.len (h : MapIs c P k w b s f) (ht : P.underlying t = some (.map k e)) (ty : TypeId) : (Builtin.len_ #[t] ty #[.map (some b)]).run P w = .ok (.int .i64 s) w := by
  obtain ⟨D, ho, hs, _⟩ := h
  rw [ho.len ht ty, hs]

theorem MapIs.store (hc : ∀ x y, c x = c y → x = y) (h : MapIs c P k w b s f) (K : Keyed P k) (ht : P.underlying t = some (.map k e)) (hn : s < maxLen) {x : κ} {kl : Lit} (hkey : keyOf P k (c x) = some kl) (val : Value) :
    ∃ w', (Instr.mapUpdate t (.map (some b)) (c x) val).run P w = .ok () w' ∧ MapIs c P k w' b (if (f x).isSome then s else s + 1) (fun l => if l = x then some val else f l) ∧ w.mapTurned w' b := by
  obtain ⟨D, ho, hs, hf⟩ := h
  have hT := ho.tidy K
  obtain ⟨w', hrun, ho', hm⟩ := ho.store K ht hn hkey (show tokR val = some (.held val, []) from rfl)
  have hkl := K.key hkey
  have hsz : Maps.size (D.put kl (.held val)) = (if (f x).isSome then s else s + 1) := by
    rw [size_put hT, hs]
    rcases hf x kl hkey with ⟨h1, h2⟩ | ⟨y, h1, h2, h3⟩
    · rw [h1, h2]; rfl
    · rw [h1, h2]; rfl
  refine ⟨w', hrun, ⟨D.put kl (.held val), hsz ▸ owns_exact ho', hsz, fun l m hm' => ?_⟩, hm⟩
  by_cases hl : l = x
  · subst hl
    obtain rfl : kl = m := Option.some.inj (hkey.symm.trans hm')
    exact .inr ⟨val, if_pos rfl, has_put_same hT.isMap hkl _, fun z => atKey_put_same hT.isMap hkl _ _⟩
  · have hne : m ≠ kl := fun e => hl (hc _ _ (K.inj hm' (e ▸ hkey)))
    rcases hf l m hm' with ⟨h1, h2⟩ | ⟨y, h1, h2, h3⟩
    · exact .inl ⟨(if_neg hl).trans h1, by rw [has_put_other hne]; exact h2⟩
    · exact .inr ⟨y, (if_neg hl).trans h1, by rw [has_put_other hne]; exact h2, fun z => by rw [atKey_put_other hne]; exact h3 z⟩

theorem MapIs.drop (hc : ∀ x y, c x = c y → x = y) (h : MapIs c P k w b s f) (K : Keyed P k) (ht : P.underlying t = some (.map k e)) {x : κ} {kl : Lit} (hkey : keyOf P k (c x) = some kl) (ty : TypeId) :
    ∃ w', (Builtin.delete_ #[t, k] ty #[.map (some b), c x]).run P w = .ok (.tuple #[]) w' ∧ MapIs c P k w' b (if (f x).isSome then s - 1 else s) (fun l => if l = x then none else f l) ∧ w.mapTurned w' b := by
  obtain ⟨D, ho, hs, hf⟩ := h
  have hT := ho.tidy K
  obtain ⟨w', hrun, ho', hm⟩ := ho.drop K ht hkey ty
  have hsz : Maps.size (D.del kl) = (if (f x).isSome then s - 1 else s) := by
    have h0 := size_del (k := kl) hT
    rcases hf x kl hkey with ⟨h1, h2⟩ | ⟨y, h1, h2, h3⟩
    · rw [h1]; rw [h2, hs] at h0; simpa using h0
    · rw [h1]; rw [h2, hs] at h0; simp at h0; simp; omega
  refine ⟨w', hrun, ⟨D.del kl, hsz ▸ owns_exact ho', hsz, fun l m hm' => ?_⟩, hm⟩
  by_cases hl : l = x
  · subst hl
    obtain rfl : kl = m := Option.some.inj (hkey.symm.trans hm')
    exact .inl ⟨if_pos rfl, has_del_same⟩
  · have hne : m ≠ kl := fun e => hl (hc _ _ (K.inj hm' (e ▸ hkey)))
    rcases hf l m hm' with ⟨h1, h2⟩ | ⟨y, h1, h2, h3⟩
    · exact .inl ⟨(if_neg hl).trans h1, by rw [has_del_other hne]; exact h2⟩
    · exact .inr ⟨y, (if_neg hl).trans h1, by rw [has_del_other hne]; exact h2, fun z => by rw [atKey_del_other hne]; exact h3 z⟩
end
end Go.Proofs.Ythniclbmpeklmaa.Mp
