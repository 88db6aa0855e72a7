/- What is proved: how arguments that are plain data (numbers, truth values, arrays and structs of these, and slices of such) are opened to their cells; no conditions. -/
import Derived.ChangeArms
import Derived.WideShapes
import Derived.OpenShut
import Derived.Deep.Slices
import Derived.Test.YthniclbmpeklmaaWWords
namespace Go.Proofs.Ythniclbmpeklmaa.Krow
open Go.ChangeShapes Go.WideShapes Go.Deep Go.Proofs.YthniclbmpeklmaaW.PrintWords

/-- One cell of plain data. -/
inductive Leaf where
  | int (k : IntKind)
  | bool
def Leaf.ok : Leaf → Value → Prop
  | .int k, v => ∃ n, v = .int k n ∧ (Lit.int k n).wf = true
  | .bool, v => ∃ b, v = .bool b
def Leaves : List Leaf → List Value → Prop
  | [], [] => True
  | l :: ls, v :: vs => l.ok v ∧ Leaves ls vs
  | _, _ => False
theorem Leaves.length : ∀ {ls : List Leaf} {vs : List Value}, Leaves ls vs → vs.length = ls.length
  | [], [], _ => rfl
  | _ :: _, _ :: _, h => by simp [Leaves.length h.2]
theorem Leaves.append : ∀ {a b : List Leaf} {vs ws : List Value}, Leaves a vs → Leaves b ws → Leaves (a ++ b) (vs ++ ws)
  | [], _, [], _, _, h => h
  | _ :: _, _, _ :: _, _, h, h' => ⟨h.1, Leaves.append h.2 h'⟩
theorem Leaves.int {k : IntKind} {ls : List Leaf} {vs : List Value} (h : Leaves (.int k :: ls) vs) : ∃ n r, vs = .int k n :: r ∧ (Lit.int k n).wf = true ∧ Leaves ls r := by
  match vs, h with
  | _ :: r, ⟨⟨n, rfl, hw⟩, h⟩ => exact ⟨n, r, rfl, hw, h⟩
theorem Leaves.boole {ls : List Leaf} {vs : List Value} (h : Leaves (.bool :: ls) vs) : ∃ b r, vs = .bool b :: r ∧ Leaves ls r := by
  match vs, h with
  | _ :: r, ⟨⟨b, rfl⟩, h⟩ => exact ⟨b, r, rfl, h⟩
theorem Leaves.nil {vs : List Value} (h : Leaves [] vs) : vs = [] := by
  match vs, h with
  | [], _ => rfl

theorem collect {α : Type} {p : Nat → α → Prop} {len : Nat} (key : ∀ i, i < len → ∃ x : α, p i x) : ∃ l : List α, l.length = len ∧ ∀ i x, l[i]? = some x → p i x := by
  induction len with
  | zero => exact ⟨[], rfl, fun i x h => by simp at h⟩
  | succ len ih =>
    obtain ⟨l, hl, hx⟩ := ih (fun i hi => key i (by omega))
    obtain ⟨x, hp⟩ := key len (by omega)
    refine ⟨l ++ [x], by simp [hl], fun i y hy => ?_⟩
    by_cases hi : i < len
    · rw [List.getElem?_append_left (by omega)] at hy
      exact hx i y hy
    · rw [List.getElem?_append_right (by omega)] at hy
      have : i - l.length = 0 := by
        have := (List.getElem?_eq_some_iff.1 hy).1
        simp at this
        omega
      rw [this] at hy
      obtain rfl : x = y := by simpa using hy
      obtain rfl : i = len := by omega
      exact hp

/-- The cells of a struct's fields, one behind the other. -/
def fieldsOf (f : TypeId → Option (List Leaf)) (P : Program) : List Field → Nat → Option (List Leaf)
  | [], _ => some []
  | x :: r, off => (f x.type).bind fun ls => if x.offset = off ∧ P.cellsOf x.type = ls.length then (fieldsOf f P r (off + ls.length)).map (ls ++ ·) else none
/-- A type of plain data: its cells. -/
def plainOf (P : Program) : Nat → TypeId → Option (List Leaf)
  | 0, _ => none
  | n + 1, t => match P.underlying t with
    | some (.int k) => some [.int k]
    | some .bool => some [.bool]
    | some (.struct fs) => (fieldsOf (plainOf P n) P fs.toList 0).bind fun ls => if P.cellsOf t = ls.length then some ls else none
    | some (.array m e) => (plainOf P n e).bind fun ls => if P.cellsOf e = ls.length ∧ P.cellsOf t = m * ls.length then some ((List.replicate m ls).flatten) else none
    | _ => none

section
variable {H : Type} {enc : TypeId × Value → H} {P : Program} {w : World} {base : Nat} {spare : Nat → Bool} {held : Bool}

theorem fields_leaves {n : Nat} (ih : ∀ (t : TypeId) (ls : List Leaf) (fuel : Nat) (cs : List Value) (x : DataW H × List MemPlace), plainOf P n t = some ls → DataW.trod enc P w base spare held fuel t cs = some x → Leaves ls cs) (cs : List Value) (m : Nat) :
    ∀ (fs : List Field) (off : Nat) (ls : List Leaf), (∀ (i : Nat) (f : Field), fs[i]? = some f → ∃ x, DataW.trod enc P w base spare held m f.type ((cs.drop f.offset).take (P.cellsOf f.type)) = some x) →
      fieldsOf (plainOf P n) P fs off = some ls → Leaves ls ((cs.drop off).take ls.length) := by
  intro fs
  induction fs with
  | nil =>
    intro off ls _ h
    simp only [fieldsOf, Option.some.injEq] at h
    subst h
    simp [Leaves]
  | cons f r ihr =>
    intro off ls hx h
    simp only [fieldsOf] at h
    obtain ⟨l1, h1, h⟩ := Option.bind_eq_some_iff.1 h
    by_cases hc : f.offset = off ∧ P.cellsOf f.type = l1.length
    · rw [if_pos hc] at h
      obtain ⟨l2, h2, rfl⟩ := Option.map_eq_some_iff.1 h
      obtain ⟨x, hx0⟩ := hx 0 f rfl
      rw [hc.1, hc.2] at hx0
      have a1 := ih f.type l1 m _ x h1 hx0
      have a2 := ihr (off + l1.length) l2 (fun i g hg => hx (i + 1) g hg) h2
      have e : (cs.drop off).take (l1 ++ l2).length = (cs.drop off).take l1.length ++ (cs.drop (off + l1.length)).take l2.length := by
        rw [List.length_append, List.take_add, List.drop_drop]
      rw [e]
      exact a1.append a2
    · rw [if_neg hc] at h
      cases h

theorem blocks_leaves (ls : List Leaf) (cs : List Value) : ∀ (m off : Nat), (∀ i, i < m → Leaves ls ((cs.drop ((off + i) * ls.length)).take ls.length)) → Leaves ((List.replicate m ls).flatten) ((cs.drop (off * ls.length)).take (m * ls.length)) := by
  intro m
  induction m with
  | zero => intro off _; simp [Leaves]
  | succ m ih =>
    intro off h
    have a1 := h 0 (by omega)
    have a2 := ih (off + 1) (fun i hi => by have := h (i + 1) (by omega); rw [show off + 1 + i = off + (i + 1) by omega]; exact this)
    rw [Nat.add_zero] at a1
    rw [List.replicate_succ, List.flatten_cons, show (m + 1) * ls.length = ls.length + m * ls.length by rw [Nat.add_mul]; omega, List.take_add, List.drop_drop, show off * ls.length + ls.length = (off + 1) * ls.length by rw [Nat.add_mul]; omega]
    exact a1.append a2

/-- WHAT READS AS PLAIN DATA, CELL BY CELL. -/
theorem plain_trod : ∀ (n : Nat) (t : TypeId) (ls : List Leaf) (fuel : Nat) (cs : List Value) (x : DataW H × List MemPlace), plainOf P n t = some ls → DataW.trod enc P w base spare held fuel t cs = some x → Leaves ls cs := by
  intro n
  induction n with
  | zero => intro t ls fuel cs x h; cases h
  | succ n ih =>
    intro t ls fuel cs x h hx
    unfold plainOf at h
    split at h
    · rename_i k hu
      obtain rfl := Option.some.inj h
      obtain ⟨a, rfl, _, hw⟩ := DataW.trod_int hu hx
      exact ⟨⟨a, rfl, hw⟩, trivial⟩
    · rename_i hu
      obtain rfl := Option.some.inj h
      obtain ⟨b, rfl, _⟩ := DataW.trod_bool hu hx
      exact ⟨⟨b, rfl⟩, trivial⟩
    · rename_i fs hu
      obtain ⟨l, h1, h⟩ := Option.bind_eq_some_iff.1 h
      by_cases hc : P.cellsOf t = l.length
      · rw [if_pos hc] at h
        obtain rfl := Option.some.inj h
        obtain ⟨xs, m, _, _, hl, hlen, hf⟩ := DataW.trod_struct hu hx
        have := fields_leaves ih cs m fs.toList 0 l (fun i f hi => by
          have hi' : fs[i]? = some f := by simpa using hi
          rw [hf i f hi']
          have : i < xs.length := by rw [hlen]; exact (Array.getElem?_eq_some_iff.1 hi').1
          exact ⟨_, List.getElem?_eq_getElem this⟩) h1
        rw [List.drop_zero, List.take_of_length_le (by omega)] at this
        exact this
      · rw [if_neg hc] at h
        cases h
    · rename_i m e hu
      obtain ⟨l, h1, h⟩ := Option.bind_eq_some_iff.1 h
      by_cases hc : P.cellsOf e = l.length ∧ P.cellsOf t = m * l.length
      · rw [if_pos hc] at h
        obtain rfl := Option.some.inj h
        obtain ⟨xs, q, _, _, hl, hlen, hf⟩ := DataW.trod_array hu hx
        have := blocks_leaves l cs m 0 (fun i hi => by
          have h2 := hf i hi
          rw [List.getElem?_eq_getElem (by omega), hc.1] at h2
          rw [Nat.zero_add]
          exact ih e l q _ _ h1 h2)
        rw [Nat.zero_mul, List.drop_zero, List.take_of_length_le (by omega)] at this
        exact this
      · rw [if_neg hc] at h
        cases h
    · cases h

/-- An argument that is an array or a struct of plain data: its value written out. -/
theorem open_plain {r : Reach} {b0 : Nat} {t : TypeId} {v : Value} {d : DataW H} {ps : List MemPlace} {n : Nat} {ls : List Leaf} (hp : plainOf P n t = some ls) (ha : (match P.underlying t with | some (.struct _) | some (.array _ _) => true | _ => false) = true)
    (hv : Value.okWide P w r b0 t v) (h : DataW.Trod enc P w base spare held t v d ps) : ∃ cs : List Value, v = .agg cs.toArray ∧ Leaves ls cs := by
  obtain ⟨fuel, hf⟩ := h
  unfold Value.okWide at hv
  have key : ∃ cs, v = .agg cs := by
    split at hv
    · obtain ⟨cs, h1, _⟩ := hv; exact ⟨cs, h1⟩
    · obtain ⟨cs, h1, _⟩ := hv; exact ⟨cs, h1⟩
    · rename_i h1 h2
      split at ha
      · rename_i fs he; exact absurd he (h1 fs)
      · rename_i a e he; exact absurd he (h2 a e)
      · cases ha
  obtain ⟨cs, rfl⟩ := key
  have h2 := plain_trod n t ls fuel _ _ hp hf
  exact ⟨cs.toList, by simp, by simpa [Value.cells] using h2⟩

/-- An argument that is a slice of plain data: its elements, as the print's words have them. -/
theorem open_rows {α : Type} (D : Kd α) (good : α → Prop) {r : Reach} {b0 : Nat} {t e : TypeId} {v : Value} {d : DataW H} {ps : List MemPlace} {n : Nat} {ls : List Leaf} (hu : P.underlying t = some (.slice e)) (hp : plainOf P n e = some ls) (hc : P.cellsOf e = ls.length) (hsz : D.sz = ls.length)
    (mk : ∀ cs : List Value, Leaves ls cs → ∃ x : α, D.K w x cs ∧ good x)
    (hv : Value.okWide P w r b0 t v) (h : DataW.Trod enc P w base spare held t v d ps) :
    ∃ (A : Option Addr) (c : Nat) (l : List α), v = .slice A l.length c ∧ l.length ≤ c ∧ l.length ≤ 9223372036854775807 ∧ Kd.C D w A l.length l ∧ ∀ x ∈ l, good x := by
  obtain ⟨A, len, cap, rfl⟩ := okWide_slice hu hv
  obtain ⟨fuel, hf⟩ := h
  rcases open_slice hu hf with ⟨hcs, _⟩ | ⟨a, len', cap', m, q, Ds, Pl, hcs, _, hl, hm, hmm, _, hi⟩
  · simp [Value.cells] at hcs
    obtain ⟨rfl, rfl, rfl⟩ := hcs
    exact ⟨none, 0, [], rfl, Nat.le_refl _, by simp, ⟨rfl, by simp, fun h => absurd h (by simp)⟩, by simp⟩
  · simp [Value.cells] at hcs
    obtain ⟨rfl, rfl, rfl⟩ := hcs
    have hlm : len ≤ m := by
      rw [hmm]
      split
      · exact hl
      · exact Nat.le_refl _
    have key : ∀ i, i < len → ∃ (x : α) (cs : List Value), D.K w x cs ∧ good x ∧ cs.length = ls.length ∧ ∀ j u, cs[j]? = some u → w.cell? (a.add (i * ls.length + j)) = some u := by
      intro i hil
      obtain ⟨cs', h1, h2⟩ := hi i (by omega)
      rw [hc] at h1
      obtain ⟨_, hlen, hcell⟩ := World.cells?_some h1
      obtain ⟨x, hx, hg⟩ := mk cs' (plain_trod n e ls q cs' _ hp h2)
      refine ⟨x, cs', hx, hg, hlen, fun j u hu => ?_⟩
      have hj : j < ls.length := by rw [← hlen]; exact (List.getElem?_eq_some_iff.1 hu).1
      rw [← Go.Deep.add_add, hcell j hj, hu]
    have ch := collect key
    obtain ⟨l, rfl, hx⟩ := ch
    have hm' : cap ≤ 9223372036854775807 := hm
    refine ⟨some a, cap, l, rfl, hl, by omega, ⟨rfl, by omega, fun _ => ⟨a, rfl, fun j p hj => ?_⟩⟩, fun x hxl => ?_⟩
    · obtain ⟨cs, h1, _, h3, h4⟩ := hx j p hj
      refine ⟨cs, by rw [h3, hsz], h1, ?_⟩
      rw [hsz]
      exact h4
    · obtain ⟨i, hi⟩ := List.mem_iff_getElem?.1 hxl
      obtain ⟨_, _, h2, _⟩ := hx i x hi
      exact h2
end
end Go.Proofs.Ythniclbmpeklmaa.Krow
