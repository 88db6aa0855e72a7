/- What is proved: a part of the way to the statement JudgeNamesSaid: Mp, Mq, Me, AuP, AuQ, AuS, AuA, EvA, EvB, EvC, EvD, JuP, JuM, JuA, EvE, EvG, EvF, EvH, EvI, EvJ, JuB; no conditions. Put together by a program of this session (claimv.py). -/
import Derived.Maps.OwnSet
import Derived.DeepKeys4
import Derived.Maps.OwnOps
import Derived.WideKeyEntry
import Derived.Test.YthniclbmpeklmaaProg
import Derived.WalkKit
import Derived.KernelRfl
import Derived.Maps.AppendAt
import Derived.Deep.AppendLies
import Derived.Deep.LoopGhost
import Derived.Deep.QuietTactic
import Derived.BigQuiet
import Derived.Laws.CopyOwn
import Derived.Laws.Rows
import Derived.StillTailTactics
import Derived.Handy
import Derived.Laws.Bits
import Derived.Deep.RegionWith
import Derived.Deep.RegionHeld3
import Derived.Test.YthniclbmpeklmaaVjn1
section
namespace Go.Proofs.Ythniclbmpeklmaa.Mp
open Go.RowKit Go.Maps
set_option linter.unusedSectionVars false
/-- A value read as itself. -/
def tokR (v : Value) : Option (DataW Value × List MemPlace) := some (.held v, [])
/-- Block b is a map of s entries that has the value f x at the key c x (if that is one). -/
def MapIs {κ : Type} (c : κ → Value) (P : Program) (k : TypeId) (w : World) (b s : Nat) (f : κ → Option Value) : Prop :=
  ∃ D : DataW Value, w.ownsMap P k tokR b s D ∧ Maps.size D = s ∧ ∀ x l, keyOf P k (c x) = some l → (f x = none ∧ has D l = false) ∨ ∃ v, f x = some v ∧ has D l = true ∧ ∀ z, D.atKey l z = .held v
section
variable {κ : Type} [DecidableEq κ] {c : κ → Value} {P : Program} {k t e : TypeId} {w : World} {b s : Nat} {f : κ → Option Value}
theorem owns_exact {H : Type} {R : Value → Option (DataW H × List MemPlace)} {n : Nat} {D : DataW H} (h : w.ownsMap P k R b n D) : w.ownsMap P k R b (Maps.size D) D := by
  obtain ⟨es, clock, hb, F, _, rfl⟩ := h
  exact ⟨es, clock, hb, F, by simp [Maps.size, length_sorted], rfl⟩
omit [DecidableEq κ] in
theorem MapIs.made (w : World) (P : Program) (k : TypeId) : MapIs c P k (w.alloc (.map #[] 0)) w.heap.size 0 (fun _ => none) :=
  ⟨.map [], World.ownsMap_made w P k tokR, rfl, fun _ _ _ => .inl ⟨rfl, rfl⟩⟩
theorem MapIs.lt (h : MapIs c P k w b s f) : b < w.heap.size := by obtain ⟨D, h, _⟩ := h; exact h.lt
theorem MapIs.move {w' : World} (h : MapIs c P k w b s f) (hb : w'.heap[b]? = w.heap[b]?) : MapIs c P k w' b s f := by
  obtain ⟨D, ⟨es, clock, h1, h2⟩, h3⟩ := h
  exact ⟨D, ⟨es, clock, hb.trans h1, h2⟩, h3⟩
theorem MapIs.look_ok (h : MapIs c P k w b s f) (K : Keyed P k) (ht : P.underlying t = some (.map k e)) {z : Value} (hz : (zeroValue e).run P w = .ok z w) {x : κ} {kl : Lit} (hkey : keyOf P k (c x) = some kl) :
    (Instr.lookup t (.map (some b)) (c x) true).run P w = .ok (.tuple #[(f x).getD z, .bool (f x).isSome]) w := by
  obtain ⟨D, ho, _, hf⟩ := h
  obtain ⟨v, ps, hrun, hv⟩ := ho.look_ok K ht hz (zd := .held z) (zp := []) rfl hkey
  rw [hrun]
  have hv' := congrArg Prod.fst (Option.some.inj hv)
  rcases hf x kl hkey with ⟨h1, h2⟩ | ⟨y, h1, h2, h3⟩
  · rw [h1, h2]
    rw [atKey_of_not_has h2] at hv'
    injection hv' with hv'
    rw [hv']; rfl
  · rw [h1, h2]
    rw [h3] at hv'
    injection hv' with hv'
    rw [hv']; rfl
theorem MapIs.look (h : MapIs c P k w b s f) (K : Keyed P k) (ht : P.underlying t = some (.map k e)) {z : Value} (hz : (zeroValue e).run P w = .ok z w) {x : κ} {kl : Lit} (hkey : keyOf P k (c x) = some kl) :
    (Instr.lookup t (.map (some b)) (c x) false).run P w = .ok ((f x).getD z) w := by
  obtain ⟨D, ho, _, hf⟩ := h
  obtain ⟨v, ps, hrun, hv⟩ := ho.lookup K ht hz (zd := .held z) (zp := []) rfl hkey
  rw [hrun]
  have hv' := congrArg Prod.fst (Option.some.inj hv)
  rcases hf x kl hkey with ⟨h1, h2⟩ | ⟨y, h1, h2, h3⟩
  · rw [h1]
    rw [atKey_of_not_has h2] at hv'
    injection hv' with hv'
    rw [hv']; rfl
  · rw [h1]
    rw [h3] at hv'
    injection hv' with hv'
    rw [hv']; rfl
theorem MapIs.len (h : MapIs c P k w b s f) (ht : P.underlying t = some (.map k e)) (ty : TypeId) : (Builtin.len_ #[t] ty #[.map (some b)]).run P w = .ok (.int .i64 s) w := by
  obtain ⟨D, ho, hs, _⟩ := h
  rw [ho.len ht ty, hs]
theorem MapIs.store (hc : ∀ x y, c x = c y → x = y) (h : MapIs c P k w b s f) (K : Keyed P k) (ht : P.underlying t = some (.map k e)) (hn : s < maxLen) {x : κ} {kl : Lit} (hkey : keyOf P k (c x) = some kl) (val : Value) :
    ∃ w', (Instr.mapUpdate t (.map (some b)) (c x) val).run P w = .ok () w' ∧ MapIs c P k w' b (if (f x).isSome then s else s + 1) (fun l => if l = x then some val else f l) ∧ w.mapTurned w' b := by
  obtain ⟨D, ho, hs, hf⟩ := h
  have hT := ho.tidy K
  obtain ⟨w', hrun, ho', hm⟩ := ho.store K ht hn hkey (show tokR val = some (.held val, []) from rfl)
  have hkl := K.key hkey
  have hsz : Maps.size (D.put kl (.held val)) = (if (f x).isSome then s else s + 1) := by
    rw [size_put hT, hs]
    rcases hf x kl hkey with ⟨h1, h2⟩ | ⟨y, h1, h2, h3⟩
    · rw [h1, h2]; rfl
    · rw [h1, h2]; rfl
  refine ⟨w', hrun, ⟨D.put kl (.held val), hsz ▸ owns_exact ho', hsz, fun l m hm' => ?_⟩, hm⟩
  by_cases hl : l = x
  · subst hl
    obtain rfl : kl = m := Option.some.inj (hkey.symm.trans hm')
    exact .inr ⟨val, if_pos rfl, has_put_same hT.isMap hkl _, fun z => atKey_put_same hT.isMap hkl _ _⟩
  · have hne : m ≠ kl := fun e => hl (hc _ _ (K.inj hm' (e ▸ hkey)))
    rcases hf l m hm' with ⟨h1, h2⟩ | ⟨y, h1, h2, h3⟩
    · exact .inl ⟨(if_neg hl).trans h1, by rw [has_put_other hne]; exact h2⟩
    · exact .inr ⟨y, (if_neg hl).trans h1, by rw [has_put_other hne]; exact h2, fun z => by rw [atKey_put_other hne]; exact h3 z⟩
theorem MapIs.drop (hc : ∀ x y, c x = c y → x = y) (h : MapIs c P k w b s f) (K : Keyed P k) (ht : P.underlying t = some (.map k e)) {x : κ} {kl : Lit} (hkey : keyOf P k (c x) = some kl) (ty : TypeId) :
    ∃ w', (Builtin.delete_ #[t, k] ty #[.map (some b), c x]).run P w = .ok (.tuple #[]) w' ∧ MapIs c P k w' b (if (f x).isSome then s - 1 else s) (fun l => if l = x then none else f l) ∧ w.mapTurned w' b := by
  obtain ⟨D, ho, hs, hf⟩ := h
  have hT := ho.tidy K
  obtain ⟨w', hrun, ho', hm⟩ := ho.drop K ht hkey ty
  have hsz : Maps.size (D.del kl) = (if (f x).isSome then s - 1 else s) := by
    have h0 := size_del (k := kl) hT
    rcases hf x kl hkey with ⟨h1, h2⟩ | ⟨y, h1, h2, h3⟩
    · rw [h1]; rw [h2, hs] at h0; simpa using h0
    · rw [h1]; rw [h2, hs] at h0; simp at h0; simp; omega
  refine ⟨w', hrun, ⟨D.del kl, hsz ▸ owns_exact ho', hsz, fun l m hm' => ?_⟩, hm⟩
  by_cases hl : l = x
  · subst hl
    obtain rfl : kl = m := Option.some.inj (hkey.symm.trans hm')
    exact .inl ⟨if_pos rfl, has_del_same⟩
  · have hne : m ≠ kl := fun e => hl (hc _ _ (K.inj hm' (e ▸ hkey)))
    rcases hf l m hm' with ⟨h1, h2⟩ | ⟨y, h1, h2, h3⟩
    · exact .inl ⟨(if_neg hl).trans h1, by rw [has_del_other hne]; exact h2⟩
    · exact .inr ⟨y, (if_neg hl).trans h1, by rw [has_del_other hne]; exact h2, fun z => by rw [atKey_del_other hne]; exact h3 z⟩
end
end Go.Proofs.Ythniclbmpeklmaa.Mp
end
section
namespace Go.Proofs.Ythniclbmpeklmaa.Mp
open Go.RowKit Go.Maps
set_option linter.unusedSectionVars false
section
variable {κ : Type} [DecidableEq κ] {c : κ → Value} {P : Program} {k t e : TypeId} {w : World} {b s : Nat} {f : κ → Option Value}
variable {ops : Array Oper} {rest : List Oper} {o : Oper} {a : Act} {Q : Exit → Act → World → Prop}
theorem wpl_store (hc : ∀ x y, c x = c y → x = y) (hg : o.guard = none) (m x v : Operand) (t : TypeId) (hop : o.op = Op.mapUpdate t m x v) (h : MapIs c P k w b s f) (K : Keyed P k) (ht : P.underlying t = some (.map k e)) (hn : s < maxLen) {y : κ} {kl : Lit} (hkey : keyOf P k (c y) = some kl) {val : Value}
    (hm : a.eval m = .map (some b)) (hx : a.eval x = c y) (hv : a.eval v = val) (hK : ∀ w', MapIs c P k w' b (if (f y).isSome then s else s + 1) (fun l => if l = y then some val else f l) → w.grownBy w' (some b) → wpList P ops Q rest (a.put o.dst undef) w') : wpList P ops Q (o :: rest) a w := by
  refine wpList_plain hg fun K' hK' => ?_
  obtain ⟨w', hrun, h1, h2⟩ := h.store hc K ht hn hkey val
  unfold Oper.wp
  simp [execOp, hop, hm, hx, hv, hrun, Result.andThen]
  exact hK' _ _ (hK w' h1 h2.grown)
theorem wpl_drop (hc : ∀ x y, c x = c y → x = y) (hg : o.guard = none) (m x : Operand) (t : TypeId) (hop : o.op = Op.call { callee := Callee.builtin Builtin.delete, args := #[m, x], argTypes := #[t, k] }) (h : MapIs c P k w b s f) (K : Keyed P k) (ht : P.underlying t = some (.map k e)) {y : κ} {kl : Lit} (hkey : keyOf P k (c y) = some kl)
    (hm : a.eval m = .map (some b)) (hx : a.eval x = c y) (hK : ∀ w', MapIs c P k w' b (if (f y).isSome then s - 1 else s) (fun l => if l = y then none else f l) → w.grownBy w' (some b) → wpList P ops Q rest (a.put o.dst (.tuple #[])) w') : wpList P ops Q (o :: rest) a w := by
  refine wpList_plain hg fun K' hK' => ?_
  obtain ⟨w', hrun, h1, h2⟩ := h.drop hc K ht hkey o.type
  unfold Oper.wp
  simp [execOp, hop, resolve, invoke, builtin, hm, hx, hrun, Result.andThen]
  exact hK' _ _ (hK w' h1 h2.grown)
end
end Go.Proofs.Ythniclbmpeklmaa.Mp
end
section
namespace Go.Proofs.Ythniclbmpeklmaa.Mp
open Go.RowKit Go.Maps
open Go.WideMaps (KeyLaw)
open Go.ChangeMaps Go.WideElems Go.MapKept
section
variable {κ : Type} [DecidableEq κ] {c : κ → Value} {P : Program} {k t e : TypeId} {w : World} {b s : Nat} {f : κ → Option Value}
theorem MapIs.block {κ : Type} {c : κ → Value} {P : Program} {k : TypeId} {w : World} {b s : Nat} {f : κ → Option Value} (h : MapIs c P k w b s f) : ∃ es clock, w.heap[b]? = some (.map es clock) := by
  obtain ⟨D, ⟨es, cl, hb, _⟩, _⟩ := h
  exact ⟨es, cl, hb⟩
end
end Go.Proofs.Ythniclbmpeklmaa.Mp
end
section
namespace Go.Proofs.Ythniclbmpeklmaa.Au
set_option linter.unusedVariables false
/-- An event. -/
structure Ev where
  k : Int
  wk : Int
  op : Int
  hn : Int
  hg : Int
  nn : Int
  ng : Int
  t : Int
  a : Int
  u : Int
  y : Bool
  er : Int
abbrev Ha := Int × Int
abbrev Ev.h (e : Ev) : Ha := (e.hn, e.hg)
abbrev Ev.new (e : Ev) : Ha := (e.nn, e.ng)
structure Life where
  hn : Int
  hg : Int
  made : Int
  wk : Int
  til : Int
  dl : Int
structure Cl where
  e : Ev
  beg : Int
  clk : Int
  en : Int
structure Story where
  l : List Ev
  lives : List Life
  at_ : Ha → Option Nat
  calls : List Cl
  opn : Int → Option Nat
def noEnd : Int := 4611686018427387904
/-- The first place ahead of n of which something is so. -/
def firstN (p : Nat → Bool) : Nat → Option Nat
  | 0 => none
  | n + 1 => match firstN p n with
    | some i => some i
    | none => if p n then some n else none
theorem firstN_some {p : Nat → Bool} {n i : Nat} (h : firstN p n = some i) : i < n ∧ p i = true ∧ ∀ j, j < i → p j = false := by
  induction n with
  | zero => cases h
  | succ n ih =>
    unfold firstN at h
    cases hf : firstN p n with
    | some j =>
      rw [hf] at h
      obtain rfl : j = i := Option.some.inj h
      obtain ⟨h1, h2, h3⟩ := ih hf
      exact ⟨by omega, h2, h3⟩
    | none =>
      rw [hf] at h
      simp only at h
      by_cases hp : p n = true
      · rw [if_pos hp] at h
        obtain rfl : n = i := Option.some.inj h
        refine ⟨by omega, hp, fun j hj => ?_⟩
        clear ih h hp
        induction n with
        | zero => omega
        | succ n ih2 =>
          unfold firstN at hf
          cases hf2 : firstN p n with
          | some z => rw [hf2] at hf; cases hf
          | none =>
            rw [hf2] at hf
            simp only at hf
            by_cases e : j = n
            · subst e
              cases hq : p j with
              | false => rfl
              | true => rw [hq] at hf; simp at hf
            · exact ih2 hf2 (by omega)
      · rw [if_neg hp] at h
        cases h
theorem firstN_none {p : Nat → Bool} {n : Nat} (h : firstN p n = none) : ∀ j, j < n → p j = false := by
  induction n with
  | zero => intro j hj; omega
  | succ n ih =>
    intro j hj
    unfold firstN at h
    cases hf : firstN p n with
    | some z => rw [hf] at h; cases h
    | none =>
      rw [hf] at h
      simp only at h
      by_cases e : j = n
      · subst e
        cases hq : p j with
        | false => rfl
        | true => rw [hq] at h; simp at h
      · exact ih hf j (by omega)
theorem firstN_mk0 {p : Nat → Bool} {n : Nat} (h : ∀ j, j < n → p j = false) : firstN p n = none := by
  cases hf : firstN p n with
  | none => rfl
  | some j =>
    obtain ⟨a, b, c⟩ := firstN_some hf
    rw [h j a] at b; cases b
/-- A place, or -1. -/
def oI : Option Nat → Int
  | some i => i
  | none => -1
/-- What an event makes, and what it ends. -/
def mk1 (e : Ev) : Bool := e.k == 3 && e.er == 0 && (e.op == 1 || e.op == 3)
def ends (e : Ev) : Bool := (e.k == 4 || e.k == 3) && (e.k == 4 || (e.op == 2 && e.y) || (e.op == 3 && e.er == 0))
def mkP (g : Nat → Ev) (h : Ha) (i : Nat) : Bool := mk1 (g i) && decide ((g i).new = h)
def madeN (g : Nat → Ev) (n : Nat) (h : Ha) : Option Nat := firstN (mkP g h) n
def overP (g : Nat → Ev) (m : Nat) (h : Ha) (i : Nat) : Bool := decide (m < i) && (ends (g i) && decide ((g i).h = h))
def overN (g : Nat → Ev) (n m : Nat) (h : Ha) : Option Nat := firstN (overP g m h) n
def endP (g : Nat → Ev) (b i : Nat) : Bool := decide (b < i) && (decide ((g i).wk = (g b).wk) && ((g i).k == 2 || ((g i).k == 5 && decide ((g i).op = (g b).op))))
def endN (g : Nat → Ev) (n b : Nat) : Option Nat := (firstN (endP g b) n).bind fun i => if (g i).k = 5 then some i else none
def clkN (g : Nat → Ev) : Nat → Int
  | 0 => 0
  | n + 1 => if (g n).k = 1 then (g n).t else clkN g n
def tilI : Option Nat → Int
  | some i => i
  | none => noEnd
/-- What the program's turn does. -/
def updH (f : Ha → Option Nat) (h : Ha) (j : Nat) : Ha → Option Nat := fun x => if x = h then some j else f x
def updW (f : Int → Option Nat) (w : Int) (j : Nat) : Int → Option Nat := fun x => if x = w then some j else f x
def turn1 (s : Story) (i : Nat) (e : Ev) : Story :=
  match s.at_ e.h with
  | none => s
  | some k => match s.lives[k]? with
    | none => s
    | some x => if (e.k = 4 ∨ (e.op = 2 ∧ e.y = true) ∨ (e.op = 3 ∧ e.er = 0)) ∧ x.til > i then { s with lives := s.lives.set k { x with til := i } } else s
def turn2 (s : Story) (i : Nat) (e : Ev) : Story :=
  if e.k ≠ 3 ∨ e.er ≠ 0 ∨ (e.op ≠ 1 ∧ e.op ≠ 3) then s
  else match s.at_ e.new with
    | some _ => s
    | none => { s with at_ := updH s.at_ e.new s.lives.length, lives := s.lives ++ [⟨e.nn, e.ng, i, e.wk, noEnd, e.t⟩] }
def turnF (s : Story) (i : Nat) (e : Ev) : Story := turn2 (turn1 s i e) i e
def backF (s : Story) (i : Nat) (e : Ev) : Story :=
  match s.opn e.wk with
  | none => s
  | some k => match s.calls[k]? with
    | none => s
    | some q => if q.e.op = e.op ∧ q.en < 0 then { s with calls := s.calls.set k { q with en := i } } else s
/-- One event on (the event as it is told: zero where it isn't right). -/
def stepF (s : Story) (clk : Int) (i : Nat) (e : Ev) : Story :=
  let s := { s with l := s.l ++ [e] }
  if e.k = 1 then s
  else if e.k = 2 then { s with opn := updW s.opn e.wk s.calls.length, calls := s.calls ++ [⟨e, i, clk, -1⟩] }
  else if e.k = 5 then backF s i e
  else if e.k = 3 ∨ e.k = 4 then turnF s i e
  else s
/-- What the story is, n events on. -/
structure CallAt (g : Nat → Ev) (n : Nat) (q : Cl) (b : Nat) : Prop where
  lt : b < n
  beg : q.beg = b
  e : q.e = g b
  k : (g b).k = 2
  clk : q.clk = clkN g b
  en : q.en = oI (endN g n b)
structure LifeAt (g : Nat → Ev) (n : Nat) (x : Life) (m : Nat) : Prop where
  made : x.made = m
  h : madeN g n (x.hn, x.hg) = some m
  wk : x.wk = (g m).wk
  dl : x.dl = (g m).t
  til : x.til = tilI (overN g n m (x.hn, x.hg))
structure CInv (g : Nat → Ev) (n : Nat) (calls : List Cl) (opn : Int → Option Nat) : Prop where
  call : ∀ (j : Nat) q, calls[j]? = some q → ∃ b, CallAt g n q b
  has : ∀ b, b < n → (g b).k = 2 → ∃ (j : Nat) (q : Cl), calls[j]? = some q ∧ CallAt g n q b
  open0 : ∀ w, opn w = none → ∀ b, b < n → (g b).k = 2 → (g b).wk ≠ w
  open1 : ∀ w j, opn w = some j → ∃ q b, calls[j]? = some q ∧ CallAt g n q b ∧ (g b).wk = w ∧ ∀ b', b < b' → b' < n → (g b').k = 2 → (g b').wk ≠ w
  cin : ∀ (j j' : Nat) (q q' : Cl), calls[j]? = some q → calls[j']? = some q' → j < j' → q.beg < q'.beg
structure LInv (g : Nat → Ev) (n : Nat) (lives : List Life) (at_ : Ha → Option Nat) : Prop where
  life : ∀ (j : Nat) x, lives[j]? = some x → ∃ m, LifeAt g n x m
  at0 : ∀ h, at_ h = none → madeN g n h = none
  at1 : ∀ h j, at_ h = some j → ∃ x, lives[j]? = some x ∧ (x.hn, x.hg) = h
  lin : ∀ (j j' : Nat) (x x' : Life), lives[j]? = some x → lives[j']? = some x' → j < j' → x.made < x'.made
structure Inv (g : Nat → Ev) (n : Nat) (s : Story) : Prop where
  len : s.l.length = n
  l : ∀ i, i < n → s.l[i]? = some (g i)
  c : CInv g n s.calls s.opn
  v : LInv g n s.lives s.at_
theorem firstN_succ_some {p : Nat → Bool} {n i : Nat} (h : firstN p n = some i) : firstN p (n + 1) = some i := by unfold firstN; rw [h]
theorem firstN_succ_none {p : Nat → Bool} {n : Nat} (h : firstN p n = none) : firstN p (n + 1) = if p n then some n else none := by
  rw [firstN, h]
theorem firstN_succ_no {p : Nat → Bool} {n : Nat} (h : p n = false) : firstN p (n + 1) = firstN p n := by
  cases hf : firstN p n with
  | some i => exact firstN_succ_some hf
  | none => rw [firstN_succ_none hf, h]; rfl
theorem endN_no {g : Nat → Ev} {n b : Nat} (h : endP g b n = false) : endN g (n + 1) b = endN g n b := by unfold endN; rw [firstN_succ_no h]
theorem endN_stay {g : Nat → Ev} {n b i : Nat} (h : endN g n b = some i) : endN g (n + 1) b = some i := by
  unfold endN at h ⊢
  cases hf : firstN (endP g b) n with
  | none => rw [hf] at h; cases h
  | some j => rw [firstN_succ_some hf]; rw [hf] at h; exact h
/-- A call that isn't the last one of its worker stays as it is. -/
theorem endN_later {g : Nat → Ev} {n b b' : Nat} (h1 : b < b') (h2 : b' < n) (hk : (g b').k = 2) (hw : (g b').wk = (g b).wk) : endN g (n + 1) b = endN g n b := by
  have hp : endP g b b' = true := by simp [endP, h1, hk, hw]
  unfold endN
  cases hf : firstN (endP g b) n with
  | none => rw [firstN_none hf b' h2] at hp; cases hp
  | some j => rw [firstN_succ_some hf]
theorem endN_new (g : Nat → Ev) (n : Nat) : endN g (n + 1) n = none := by
  unfold endN
  rw [firstN_mk0 (fun j hj => by unfold endP; rw [decide_eq_false (by omega)]; rfl)]
  rfl
theorem CallAt.up {g : Nat → Ev} {n : Nat} {q : Cl} {b : Nat} (h : CallAt g n q b) (he : endN g (n + 1) b = endN g n b) : CallAt g (n + 1) q b :=
  ⟨by have := h.lt; omega, h.beg, h.e, h.k, h.clk, by rw [he]; exact h.en⟩
theorem CallAt.uniq {g : Nat → Ev} {n : Nat} {q : Cl} {b b' : Nat} (h : CallAt g n q b) (h' : CallAt g n q b') : b = b' := by
  have := h.beg; have := h'.beg; omega
theorem overN_no {g : Nat → Ev} {n m : Nat} {h : Ha} (hh : overP g m h n = false) : overN g (n + 1) m h = overN g n m h := by unfold overN; rw [firstN_succ_no hh]
theorem madeN_no {g : Nat → Ev} {n : Nat} {h : Ha} (hh : mkP g h n = false) : madeN g (n + 1) h = madeN g n h := by unfold madeN; rw [firstN_succ_no hh]
theorem LifeAt.up {g : Nat → Ev} {n : Nat} {x : Life} {m : Nat} (h : LifeAt g n x m) (he : overN g (n + 1) m (x.hn, x.hg) = overN g n m (x.hn, x.hg)) : LifeAt g (n + 1) x m :=
  ⟨h.made, by unfold madeN; exact firstN_succ_some h.h, h.wk, h.dl, by rw [he]; exact h.til⟩
theorem get_push {α : Type} (l : List α) (x : α) (j : Nat) (y : α) (h : (l ++ [x])[j]? = some y) : l[j]? = some y ∨ (j = l.length ∧ y = x) := by
  by_cases hj : j < l.length
  · rw [List.getElem?_append_left hj] at h; exact .inl h
  · rw [List.getElem?_append_right (by omega)] at h
    have : j - l.length = 0 := by
      have := (List.getElem?_eq_some_iff.1 h).1
      simp at this
      omega
    rw [this] at h
    exact .inr ⟨by omega, by simpa using h.symm⟩
theorem get_old {α : Type} {l : List α} {x y : α} {j : Nat} (h : l[j]? = some y) : (l ++ [x])[j]? = some y := by
  rw [List.getElem?_append_left (List.getElem?_eq_some_iff.1 h).1]; exact h
theorem get_new {α : Type} (l : List α) (x : α) : (l ++ [x])[l.length]? = some x := by simp
theorem get_set {α : Type} (l : List α) (k : Nat) (x : α) (j : Nat) (y : α) (h : (l.set k x)[j]? = some y) : (j = k ∧ y = x) ∨ (j ≠ k ∧ l[j]? = some y) := by
  by_cases e : j = k
  · subst e
    rw [List.getElem?_set_self' ] at h
    cases hl : l[j]? with
    | none => rw [hl] at h; cases h
    | some z => rw [hl] at h; exact .inl ⟨rfl, (Option.some.inj h).symm⟩
  · rw [List.getElem?_set_ne (fun q => e q.symm)] at h
    exact .inr ⟨e, h⟩
theorem set_get {α : Type} {l : List α} {k : Nat} {x y : α} (h : l[k]? = some y) : (l.set k x)[k]? = some x := by
  rw [List.getElem?_set_self (List.getElem?_eq_some_iff.1 h).1]
theorem set_get_ne {α : Type} {l : List α} {k j : Nat} {x y : α} (h : l[j]? = some y) (e : j ≠ k) : (l.set k x)[j]? = some y := by
  rw [List.getElem?_set_ne (fun q => e q.symm)]; exact h
theorem endP_no {g : Nat → Ev} {n : Nat} (h2 : (g n).k ≠ 2) (h5 : (g n).k ≠ 5) (b : Nat) : endP g b n = false := by
  unfold endP
  rw [beq_eq_false_iff_ne.2 h2, beq_eq_false_iff_ne.2 h5]
  simp
theorem CInv.same {g : Nat → Ev} {n : Nat} {calls : List Cl} {opn : Int → Option Nat} (h : CInv g n calls opn) (h2 : (g n).k ≠ 2) (h5 : (g n).k ≠ 5) : CInv g (n + 1) calls opn := by
  have up : ∀ q b, CallAt g n q b → CallAt g (n + 1) q b := fun q b hq => hq.up (endN_no (endP_no h2 h5 b))
  refine ⟨fun j q hj => ?_, fun b hb hk => ?_, fun w hw b hb hk => ?_, fun w j hw => ?_, h.cin⟩
  · obtain ⟨b, hq⟩ := h.call j q hj; exact ⟨b, up q b hq⟩
  · have hne : b ≠ n := fun e => h2 (e ▸ hk)
    obtain ⟨j, q, hj, hq⟩ := h.has b (by omega) hk; exact ⟨j, q, hj, up q b hq⟩
  · have hne : b ≠ n := fun e => h2 (e ▸ hk)
    exact h.open0 w hw b (by omega) hk
  · obtain ⟨q, b, hj, hq, hb, hl⟩ := h.open1 w j hw
    refine ⟨q, b, hj, up q b hq, hb, fun b' h1 h3 hk => ?_⟩
    have hne : b' ≠ n := fun e => h2 (e ▸ hk)
    exact hl b' h1 (by omega) hk
theorem CInv.invoke {g : Nat → Ev} {n : Nat} {calls : List Cl} {opn : Int → Option Nat} (h : CInv g n calls opn) (h2 : (g n).k = 2) :
    CInv g (n + 1) (calls ++ [⟨g n, n, clkN g n, -1⟩]) (updW opn (g n).wk calls.length) := by
  have hnew : CallAt g (n + 1) ⟨g n, n, clkN g n, -1⟩ n := ⟨by omega, rfl, rfl, h2, rfl, by rw [endN_new]; rfl⟩
  have up : ∀ q b, CallAt g n q b → CallAt g (n + 1) q b := fun q b hq => hq.up (by
    have hb := hq.lt
    by_cases hw : (g n).wk = (g b).wk
    · unfold endN
      cases hf : firstN (endP g b) n with
      | some j => rw [firstN_succ_some hf]
      | none =>
        rw [firstN_succ_none hf]
        by_cases hp : endP g b n = true
        · rw [if_pos hp]; simp [h2]
        · rw [if_neg hp]
    · exact endN_no (by unfold endP; rw [decide_eq_false hw]; simp))
  refine ⟨fun j q hj => ?_, fun b hb hk => ?_, fun w hw b hb hk => ?_, fun w j hw => ?_, fun j j' q q' hj hj' hlt => ?_⟩
  · rcases get_push _ _ _ _ hj with hj | ⟨_, rfl⟩
    · obtain ⟨b, hq⟩ := h.call j q hj; exact ⟨b, up q b hq⟩
    · exact ⟨n, hnew⟩
  · by_cases e : b = n
    · subst e; exact ⟨calls.length, _, get_new _ _, hnew⟩
    · obtain ⟨j, q, hj, hq⟩ := h.has b (by omega) hk; exact ⟨j, q, get_old hj, up q b hq⟩
  · unfold updW at hw
    by_cases e : w = (g n).wk
    · rw [if_pos e] at hw; cases hw
    · rw [if_neg e] at hw
      by_cases e2 : b = n
      · subst e2; exact fun q => e q.symm
      · exact h.open0 w hw b (by omega) hk
  · unfold updW at hw
    by_cases e : w = (g n).wk
    · rw [if_pos e] at hw
      obtain rfl : calls.length = j := Option.some.inj hw
      exact ⟨_, n, get_new _ _, hnew, e.symm, fun b' h1 h3 => by omega⟩
    · rw [if_neg e] at hw
      obtain ⟨q, b, hj, hq, hb, hl⟩ := h.open1 w j hw
      refine ⟨q, b, get_old hj, up q b hq, hb, fun b' h1 h3 hk => ?_⟩
      by_cases e2 : b' = n
      · subst e2; exact fun q => e q.symm
      · exact hl b' h1 (by omega) hk
  · rcases get_push _ _ _ _ hj' with hj' | ⟨rfl, rfl⟩
    · rcases get_push _ _ _ _ hj with hj | ⟨rfl, rfl⟩
      · exact h.cin j j' q q' hj hj' hlt
      · have := (List.getElem?_eq_some_iff.1 hj').1; omega
    · rcases get_push _ _ _ _ hj with hj | ⟨rfl, rfl⟩
      · obtain ⟨b, hq⟩ := h.call j q hj
        have := hq.beg; have := hq.lt
        show q.beg < (n : Int)
        omega
      · omega
theorem endN_last {g : Nat → Ev} {n b : Nat} (h5 : (g n).k = 5) (hb : b < n) (hw : (g n).wk = (g b).wk) (ho : (g n).op = (g b).op) (hl : ∀ b', b < b' → b' < n → (g b').k = 2 → (g b').wk ≠ (g b).wk) (he : endN g n b = none) : endN g (n + 1) b = some n := by
  unfold endN at he ⊢
  cases hf : firstN (endP g b) n with
  | some j =>
    exfalso
    rw [hf] at he
    obtain ⟨h1, h2, _⟩ := firstN_some hf
    by_cases hk : (g j).k = 5
    · simp [hk] at he
    · have : (g j).k = 2 ∧ (g j).wk = (g b).wk ∧ b < j := by
        unfold endP at h2
        simp at h2
        exact ⟨by rcases h2.2.2 with q | q; exact q; exact absurd q.1 hk, h2.2.1, h2.1⟩
      exact hl j this.2.2 h1 this.1 this.2.1
  | none =>
    rw [firstN_succ_none hf, if_pos (by simp [endP, hb, hw, h5, ho])]
    simp [h5]
theorem CInv.back {g : Nat → Ev} {n : Nat} {s : Story} (h : CInv g n s.calls s.opn) (h5 : (g n).k = 5) : CInv g (n + 1) (backF s n (g n)).calls (backF s n (g n)).opn := by
  have h2 : (g n).k ≠ 2 := by omega
  -- the call that the Return may end
  have other : ∀ q b, CallAt g n q b → (∀ j, s.opn (g n).wk = some j → ∀ q', s.calls[j]? = some q' → q'.beg = q.beg → ¬ (q.e.op = (g n).op ∧ q.en < 0)) → CallAt g (n + 1) q b := fun q b hq hno => hq.up (by
    by_cases hw : (g n).wk = (g b).wk
    · by_cases hin : ∃ b', b < b' ∧ b' < n ∧ (g b').k = 2 ∧ (g b').wk = (g b).wk
      · obtain ⟨b', h1, h3, h4, h6⟩ := hin; exact endN_later h1 h3 h4 h6
      · cases ho : s.opn (g n).wk with
        | none => exact absurd hw.symm (h.open0 _ ho b hq.lt hq.k)
        | some j =>
          obtain ⟨q', b', hj, hq', hb', hl⟩ := h.open1 _ j ho
          have hbb : b' = b := by
            rcases Nat.lt_trichotomy b b' with z | z | z
            · exact absurd ⟨b', z, hq'.lt, hq'.k, hb'.trans hw⟩ hin
            · exact z.symm
            · exact absurd (hw.symm) (hl b z hq.lt hq.k)
          subst hbb
          have hn := hno j ho q' hj (by rw [hq'.beg, hq.beg])
          cases he : endN g n b' with
          | some i => rw [endN_stay he]
          | none =>
            have : ¬ q.e.op = (g n).op := fun z => hn ⟨z, by rw [hq.en, he]; decide⟩
            rw [hq.e] at this
            rw [endN_no (by unfold endP; rw [h5]; simp; intro _ _; exact fun z => this z.symm), he]
    · exact endN_no (by unfold endP; rw [decide_eq_false hw]; simp))
  have same : (∀ j, s.opn (g n).wk = some j → ∀ q', s.calls[j]? = some q' → ¬ (q'.e.op = (g n).op ∧ q'.en < 0)) → CInv g (n + 1) s.calls s.opn := fun hno => by
    have up : ∀ (j : Nat) q b, s.calls[j]? = some q → CallAt g n q b → CallAt g (n + 1) q b := fun j q b hj hq => other q b hq fun j' ho q' hj' hbe => by
      have hjj : j' = j := by
        rcases Nat.lt_trichotomy j j' with z | z | z
        · have := h.cin j j' q q' hj hj' z; omega
        · exact z.symm
        · have := h.cin j' j q' q hj' hj z; omega
      subst hjj
      obtain rfl : q' = q := Option.some.inj (hj'.symm.trans hj)
      exact hno j' ho q' hj'
    refine ⟨fun j q hj => ?_, fun b hb hk => ?_, fun w hw b hb hk => ?_, fun w j hw => ?_, h.cin⟩
    · obtain ⟨b, hq⟩ := h.call j q hj; exact ⟨b, up j q b hj hq⟩
    · have hne : b ≠ n := fun e => h2 (e ▸ hk)
      obtain ⟨j, q, hj, hq⟩ := h.has b (by omega) hk; exact ⟨j, q, hj, up j q b hj hq⟩
    · have hne : b ≠ n := fun e => h2 (e ▸ hk)
      exact h.open0 w hw b (by omega) hk
    · obtain ⟨q, b, hj, hq, hb, hl⟩ := h.open1 w j hw
      refine ⟨q, b, hj, up j q b hj hq, hb, fun b' h1 h3 hk => ?_⟩
      have hne : b' ≠ n := fun e => h2 (e ▸ hk)
      exact hl b' h1 (by omega) hk
  unfold backF
  cases ho : s.opn (g n).wk with
  | none => exact same (fun j e => by rw [ho] at e; cases e)
  | some k =>
    obtain ⟨q, b, hj, hq, hb, hl⟩ := h.open1 _ k ho
    simp only [hj]
    by_cases hc : q.e.op = (g n).op ∧ q.en < 0
    · rw [if_pos hc]
      have hen : endN g n b = none := by
        cases he : endN g n b with
        | none => rfl
        | some i => have := hc.2; rw [hq.en, he] at this; simp only [oI] at this; omega
      have hnew : CallAt g (n + 1) { q with en := (n : Int) } b :=
        ⟨by have := hq.lt; omega, hq.beg, hq.e, hq.k, hq.clk, by rw [endN_last h5 hq.lt hb.symm (by rw [← hq.e]; exact hc.1.symm) (fun b' h1 h3 hk => by rw [hb]; exact hl b' h1 h3 hk) hen]; rfl⟩
      have up : ∀ (j : Nat) q' b', j ≠ k → s.calls[j]? = some q' → CallAt g n q' b' → CallAt g (n + 1) q' b' := fun j q' b' hne hj' hq' => other q' b' hq' fun j2 ho2 q2 hj2 hbe => by
        exfalso
        rw [ho] at ho2
        obtain rfl : k = j2 := Option.some.inj ho2
        rcases Nat.lt_trichotomy j k with z | z | z
        · have := h.cin j k q' q2 hj' hj2 z; omega
        · exact hne z
        · have := h.cin k j q2 q' hj2 hj' z; omega
      show CInv g (n + 1) (s.calls.set k { q with en := (n : Int) }) s.opn
      refine ⟨fun j q' hj' => ?_, fun b' hb' hk => ?_, fun w hw b' hb' hk => ?_, fun w j hw => ?_, fun j j' p p' hp hp' hlt => ?_⟩
      · rcases get_set _ _ _ _ _ hj' with ⟨_, rfl⟩ | ⟨hne, hj'⟩
        · exact ⟨b, hnew⟩
        · obtain ⟨b', hq'⟩ := h.call j q' hj'; exact ⟨b', up j q' b' hne hj' hq'⟩
      · have hne : b' ≠ n := fun e => h2 (e ▸ hk)
        obtain ⟨j, q', hj', hq'⟩ := h.has b' (by omega) hk
        by_cases e : j = k
        · subst e
          obtain rfl : q' = q := Option.some.inj (hj'.symm.trans hj)
          obtain rfl := hq.uniq hq'
          exact ⟨j, _, set_get hj, hnew⟩
        · exact ⟨j, q', set_get_ne hj' e, up j q' b' e hj' hq'⟩
      · have hne : b' ≠ n := fun e => h2 (e ▸ hk)
        exact h.open0 w hw b' (by omega) hk
      · obtain ⟨q', b', hj', hq', hb', hl'⟩ := h.open1 w j hw
        have hl2 : ∀ b'', b' < b'' → b'' < n + 1 → (g b'').k = 2 → (g b'').wk ≠ w := fun b'' h1 h3 hk => by
          have hne : b'' ≠ n := fun e => h2 (e ▸ hk)
          exact hl' b'' h1 (by omega) hk
        by_cases e : j = k
        · subst e
          obtain rfl : q' = q := Option.some.inj (hj'.symm.trans hj)
          obtain rfl := hq.uniq hq'
          exact ⟨_, b, set_get hj, hnew, hb', hl2⟩
        · exact ⟨q', b', set_get_ne hj' e, up j q' b' e hj' hq', hb', hl2⟩
      · have bg : ∀ (j : Nat) p, (s.calls.set k { q with en := (n : Int) })[j]? = some p → ∃ p0, s.calls[j]? = some p0 ∧ p0.beg = p.beg := fun j p hp => by
          rcases get_set _ _ _ _ _ hp with ⟨rfl, rfl⟩ | ⟨_, hp⟩
          · exact ⟨q, hj, rfl⟩
          · exact ⟨p, hp, rfl⟩
        obtain ⟨p0, a1, a2⟩ := bg j p hp
        obtain ⟨p1, a3, a4⟩ := bg j' p' hp'
        have := h.cin j j' p0 p1 a1 a3 hlt
        omega
    · rw [if_neg hc]
      refine same (fun j e q' hj' => ?_)
      rw [ho] at e
      obtain rfl : k = j := Option.some.inj e
      obtain rfl : q = q' := Option.some.inj (hj.symm.trans hj')
      exact hc
theorem ends_k {e : Ev} (h3 : e.k ≠ 3) (h4 : e.k ≠ 4) : ends e = false := by
  unfold ends
  rw [beq_eq_false_iff_ne.2 h3, beq_eq_false_iff_ne.2 h4]
  rfl
theorem mk1_k {e : Ev} (h3 : e.k ≠ 3) : mk1 e = false := by
  unfold mk1
  rw [beq_eq_false_iff_ne.2 h3]
  rfl
theorem LInv.same {g : Nat → Ev} {n : Nat} {lives : List Life} {at_ : Ha → Option Nat} (h : LInv g n lives at_) (h3 : (g n).k ≠ 3) (h4 : (g n).k ≠ 4) : LInv g (n + 1) lives at_ := by
  have up : ∀ x m, LifeAt g n x m → LifeAt g (n + 1) x m := fun x m hx => hx.up (overN_no (by unfold overP; rw [ends_k h3 h4]; simp))
  refine ⟨fun j x hj => ?_, fun k hk => ?_, h.at1, h.lin⟩
  · obtain ⟨m, hx⟩ := h.life j x hj; exact ⟨m, up x m hx⟩
  · rw [madeN_no (by unfold mkP; rw [mk1_k h3]; rfl)]; exact h.at0 k hk
theorem LInv.inj {g : Nat → Ev} {n : Nat} {lives : List Life} {at_ : Ha → Option Nat} (h : LInv g n lives at_) {j j' : Nat} {x x' : Life} (hj : lives[j]? = some x) (hj' : lives[j']? = some x') (e : (x.hn, x.hg) = (x'.hn, x'.hg)) : j = j' ∧ x = x' := by
  obtain ⟨m, hm⟩ := h.life j x hj
  obtain ⟨m', hm'⟩ := h.life j' x' hj'
  have e1 : some m = some m' := hm.h.symm.trans ((congrArg (madeN g n) e).trans hm'.h)
  have e2 : x.made = x'.made := by rw [hm.made, hm'.made, Option.some.inj e1]
  rcases Nat.lt_trichotomy j j' with z | z | z
  · have := h.lin j j' x x' hj hj' z; omega
  · subst z; exact ⟨rfl, Option.some.inj (hj.symm.trans hj')⟩
  · have := h.lin j' j x' x hj' hj z; omega
/-- Behind the first half of a turn: the ends told. -/
structure LMid (g : Nat → Ev) (n : Nat) (lives : List Life) (at_ : Ha → Option Nat) : Prop where
  life : ∀ (j : Nat) x, lives[j]? = some x → ∃ m : Nat, x.made = m ∧ madeN g n (x.hn, x.hg) = some m ∧ x.wk = (g m).wk ∧ x.dl = (g m).t ∧ x.til = tilI (overN g (n + 1) m (x.hn, x.hg))
  at0 : ∀ h, at_ h = none → madeN g n h = none
  at1 : ∀ h j, at_ h = some j → ∃ x, lives[j]? = some x ∧ (x.hn, x.hg) = h
  lin : ∀ (j j' : Nat) (x x' : Life), lives[j]? = some x → lives[j']? = some x' → j < j' → x.made < x'.made
theorem overN_here {g : Nat → Ev} {n m : Nat} {h : Ha} (hm : m < n) (he : ends (g n) = true) (hh : (g n).h = h) (ho : overN g n m h = none) : overN g (n + 1) m h = some n := by
  unfold overN at ho ⊢
  rw [firstN_succ_none ho, if_pos (by unfold overP; rw [decide_eq_true hm, he, decide_eq_true hh]; rfl)]
theorem ends_34 {e : Ev} (h34 : e.k = 3 ∨ e.k = 4) : ends e = true ↔ (e.k = 4 ∨ (e.op = 2 ∧ e.y = true) ∨ (e.op = 3 ∧ e.er = 0)) := by
  unfold ends
  rcases h34 with h | h
  · simp [h]
  · simp [h]
theorem LInv.turn1 {g : Nat → Ev} {n : Nat} {s : Story} (h : LInv g n s.lives s.at_) (hn : (n : Int) < noEnd) (h34 : (g n).k = 3 ∨ (g n).k = 4) : LMid g n (turn1 s n (g n)).lives (turn1 s n (g n)).at_ := by
  have keep : (∀ (j : Nat) x m, s.lives[j]? = some x → LifeAt g n x m → overN g (n + 1) m (x.hn, x.hg) = overN g n m (x.hn, x.hg)) → LMid g n s.lives s.at_ := fun hk =>
    ⟨fun j x hj => by
      obtain ⟨m, hx⟩ := h.life j x hj
      exact ⟨m, hx.made, hx.h, hx.wk, hx.dl, by rw [hk j x m hj hx]; exact hx.til⟩, h.at0, h.at1, h.lin⟩
  have no : ∀ m (k : Ha), (g n).h ≠ k → overN g (n + 1) m k = overN g n m k := fun m k hne => overN_no (by unfold overP; rw [decide_eq_false hne]; simp)
  unfold Au.turn1
  cases ha : s.at_ (g n).h with
  | none =>
    refine keep fun j x m hj hx => no m _ fun e => ?_
    have := h.at0 _ ha
    rw [e, hx.h] at this
    cases this
  | some k =>
    obtain ⟨x, hk, hxh⟩ := h.at1 _ k ha
    obtain ⟨m, hm⟩ := h.life k x hk
    simp only [hk]
    by_cases hc : ((g n).k = 4 ∨ ((g n).op = 2 ∧ (g n).y = true) ∨ ((g n).op = 3 ∧ (g n).er = 0)) ∧ x.til > n
    · rw [if_pos hc]
      have hnone : overN g n m (x.hn, x.hg) = none := by
        cases ho : overN g n m (x.hn, x.hg) with
        | none => rfl
        | some i =>
          have h1 := hm.til
          rw [ho] at h1
          have := (firstN_some ho).1
          have := hc.2
          simp only [tilI] at h1
          omega
      have hmn : m < n := (firstN_some hm.h).1
      have hov : overN g (n + 1) m (x.hn, x.hg) = some n := overN_here hmn ((ends_34 h34).2 hc.1) hxh.symm hnone
      refine ⟨fun j x' hj => ?_, h.at0, fun q j hq => ?_, fun j j' p p' hp hp' hlt => ?_⟩
      · rcases get_set _ _ _ _ _ hj with ⟨_, rfl⟩ | ⟨hne, hj⟩
        · exact ⟨m, hm.made, hm.h, hm.wk, hm.dl, by show (n : Int) = tilI (overN g (n + 1) m (x.hn, x.hg)); rw [hov]; rfl⟩
        · obtain ⟨m', hx'⟩ := h.life j x' hj
          refine ⟨m', hx'.made, hx'.h, hx'.wk, hx'.dl, ?_⟩
          rw [no m' _ (fun e => hne (h.inj hj hk (by rw [hxh, e])).1)]
          exact hx'.til
      · obtain ⟨x', hj, e⟩ := h.at1 q j hq
        by_cases ejk : j = k
        · subst ejk
          obtain rfl : x = x' := Option.some.inj (hk.symm.trans hj)
          exact ⟨_, set_get hk, e⟩
        · exact ⟨x', set_get_ne hj ejk, e⟩
      · have bg : ∀ (j : Nat) p, (s.lives.set k { x with til := (n : Int) })[j]? = some p → ∃ p0, s.lives[j]? = some p0 ∧ p0.made = p.made := fun j p hp => by
          rcases get_set _ _ _ _ _ hp with ⟨rfl, rfl⟩ | ⟨_, hp⟩
          · exact ⟨x, hk, rfl⟩
          · exact ⟨p, hp, rfl⟩
        obtain ⟨p0, a1, a2⟩ := bg j p hp
        obtain ⟨p1, a3, a4⟩ := bg j' p' hp'
        have := h.lin j j' p0 p1 a1 a3 hlt
        omega
    · rw [if_neg hc]
      refine keep fun j x' m' hj hx' => ?_
      by_cases e : (g n).h = (x'.hn, x'.hg)
      · obtain ⟨rfl, rfl⟩ := h.inj hk hj (by rw [hxh, e])
        obtain rfl : m = m' := by have := hm.made; have := hx'.made; omega
        by_cases hen : ends (g n) = true
        · cases ho : overN g n m (x.hn, x.hg) with
          | some i => unfold overN at ho ⊢; rw [firstN_succ_some ho]
          | none =>
            have h1 := hm.til
            rw [ho] at h1
            exact absurd ⟨(ends_34 h34).1 hen, by rw [h1]; exact hn⟩ hc
        · exact overN_no (by unfold overP; simp [hen])
      · exact no m' _ e
theorem overN_self (g : Nat → Ev) (n : Nat) (h : Ha) : overN g (n + 1) n h = none := by
  unfold overN
  exact firstN_mk0 fun j hj => by unfold overP; rw [decide_eq_false (by omega)]; rfl
theorem LMid.turn2 {g : Nat → Ev} {n : Nat} {s : Story} (h : LMid g n s.lives s.at_) (h34 : (g n).k = 3 ∨ (g n).k = 4) : LInv g (n + 1) (turn2 s n (g n)).lives (turn2 s n (g n)).at_ := by
  have up : ∀ (k : Ha) m, madeN g n k = some m → madeN g (n + 1) k = some m := fun k m hm => by unfold madeN; exact firstN_succ_some hm
  have same : (∀ k, madeN g n k = none → s.at_ k = none → mkP g k n = false) → LInv g (n + 1) s.lives s.at_ := fun hno =>
    ⟨fun j x hj => by
      obtain ⟨m, a, b, c, d, e⟩ := h.life j x hj
      exact ⟨m, a, up _ m b, c, d, e⟩, fun k hk => by
      have hk0 := h.at0 k hk
      rw [madeN_no (hno k hk0 hk)]; exact hk0, h.at1, h.lin⟩
  unfold Au.turn2
  by_cases hc : (g n).k ≠ 3 ∨ (g n).er ≠ 0 ∨ ((g n).op ≠ 1 ∧ (g n).op ≠ 3)
  · rw [if_pos hc]
    refine same fun k _ _ => ?_
    have : mk1 (g n) = false := by
      unfold mk1
      rcases hc with q | q | ⟨q, r⟩
      · rw [beq_eq_false_iff_ne.2 q]; rfl
      · rw [beq_eq_false_iff_ne.2 q]; simp
      · rw [beq_eq_false_iff_ne.2 q, beq_eq_false_iff_ne.2 r]; simp
    unfold mkP
    rw [this]; rfl
  · rw [if_neg hc]
    have hmk : mk1 (g n) = true := by
      unfold mk1
      have a : (g n).k = 3 := Decidable.byContradiction fun q => hc (.inl q)
      have b : (g n).er = 0 := Decidable.byContradiction fun q => hc (.inr (.inl q))
      by_cases c : (g n).op = 1
      · simp [a, b, c]
      · have d : (g n).op = 3 := Decidable.byContradiction fun q => hc (.inr (.inr ⟨c, q⟩))
        simp [a, b, d]
    cases ha : s.at_ (g n).new with
    | some j =>
      simp only
      refine same fun k hk hk2 => ?_
      unfold mkP
      rw [decide_eq_false (fun e => by rw [← e] at hk2; rw [ha] at hk2; cases hk2)]
      simp
    | none =>
      simp only
      have hnone := h.at0 _ ha
      have hmade : madeN g (n + 1) (g n).new = some n := by
        unfold madeN at hnone ⊢
        rw [firstN_succ_none hnone, if_pos (by unfold mkP; rw [hmk]; simp)]
      have hnew : LifeAt g (n + 1) ⟨(g n).nn, (g n).ng, n, (g n).wk, noEnd, (g n).t⟩ n :=
        ⟨rfl, hmade, rfl, rfl, by show noEnd = tilI (overN g (n + 1) n _); rw [overN_self]; rfl⟩
      refine ⟨fun j x hj => ?_, fun k hk => ?_, fun k j hk => ?_, fun j j' p p' hp hp' hlt => ?_⟩
      · rcases get_push _ _ _ _ hj with hj | ⟨_, rfl⟩
        · obtain ⟨m, a, b, c, d, e⟩ := h.life j x hj
          exact ⟨m, a, up _ m b, c, d, e⟩
        · exact ⟨n, hnew⟩
      · have hk' : (if k = (g n).new then some s.lives.length else s.at_ k) = none := hk
        by_cases e : k = (g n).new
        · rw [if_pos e] at hk'; cases hk'
        · rw [if_neg e] at hk'
          rw [madeN_no (by unfold mkP; rw [decide_eq_false (fun q => e q.symm)]; simp)]
          exact h.at0 k hk'
      · have hk' : (if k = (g n).new then some s.lives.length else s.at_ k) = some j := hk
        by_cases e : k = (g n).new
        · rw [if_pos e] at hk'
          obtain rfl : s.lives.length = j := Option.some.inj hk'
          exact ⟨_, get_new _ _, e.symm⟩
        · rw [if_neg e] at hk'
          obtain ⟨x, hj, hx⟩ := h.at1 k j hk'
          exact ⟨x, get_old hj, hx⟩
      · rcases get_push _ _ _ _ hp' with hp' | ⟨rfl, rfl⟩
        · rcases get_push _ _ _ _ hp with hp | ⟨rfl, rfl⟩
          · exact h.lin j j' p p' hp hp' hlt
          · have := (List.getElem?_eq_some_iff.1 hp').1; omega
        · rcases get_push _ _ _ _ hp with hp | ⟨rfl, rfl⟩
          · obtain ⟨m, a, b, _⟩ := h.life j p hp
            have := (firstN_some b).1
            show p.made < (n : Int)
            omega
          · omega
theorem turn1_c (s : Story) (i : Nat) (e : Ev) : (turn1 s i e).calls = s.calls ∧ (turn1 s i e).opn = s.opn ∧ (turn1 s i e).l = s.l := by
  unfold turn1
  split
  · exact ⟨rfl, rfl, rfl⟩
  · split
    · exact ⟨rfl, rfl, rfl⟩
    · split <;> exact ⟨rfl, rfl, rfl⟩
theorem turn2_c (s : Story) (i : Nat) (e : Ev) : (turn2 s i e).calls = s.calls ∧ (turn2 s i e).opn = s.opn ∧ (turn2 s i e).l = s.l := by
  unfold turn2
  split
  · exact ⟨rfl, rfl, rfl⟩
  · split <;> exact ⟨rfl, rfl, rfl⟩
theorem backF_c (s : Story) (i : Nat) (e : Ev) : (backF s i e).lives = s.lives ∧ (backF s i e).at_ = s.at_ ∧ (backF s i e).l = s.l := by
  unfold backF
  split
  · exact ⟨rfl, rfl, rfl⟩
  · split
    · exact ⟨rfl, rfl, rfl⟩
    · split <;> exact ⟨rfl, rfl, rfl⟩
theorem Inv.step {g : Nat → Ev} {n : Nat} {s : Story} (h : Inv g n s) (hn : (n : Int) < noEnd) : Inv g (n + 1) (stepF s (clkN g n) n (g n)) := by
  have hl : (s.l ++ [g n]).length = n + 1 := by rw [List.length_append, h.len]; rfl
  have hg : ∀ i, i < n + 1 → (s.l ++ [g n])[i]? = some (g i) := fun i hi => by
    by_cases e : i = n
    · subst e; rw [← h.len]; simp
    · exact get_old (h.l i (by omega))
  unfold stepF
  by_cases k1 : (g n).k = 1
  · simp only [if_pos k1]
    exact ⟨hl, hg, h.c.same (by omega) (by omega), h.v.same (by omega) (by omega)⟩
  by_cases k2 : (g n).k = 2
  · simp only [if_neg k1, if_pos k2]
    exact ⟨hl, hg, h.c.invoke k2, h.v.same (by omega) (by omega)⟩
  by_cases k5 : (g n).k = 5
  · simp only [if_neg k1, if_neg k2, if_pos k5]
    have c1 := backF_c { s with l := s.l ++ [g n] } n (g n)
    refine ⟨by rw [c1.2.2]; exact hl, fun i hi => by rw [c1.2.2]; exact hg i hi, CInv.back (s := { s with l := s.l ++ [g n] }) h.c k5, ?_⟩
    rw [c1.1, c1.2.1]
    exact h.v.same (by omega) (by omega)
  by_cases k34 : (g n).k = 3 ∨ (g n).k = 4
  · simp only [if_neg k1, if_neg k2, if_neg k5, if_pos k34]
    have c1 := turn1_c { s with l := s.l ++ [g n] } n (g n)
    have c2 := turn2_c (turn1 { s with l := s.l ++ [g n] } n (g n)) n (g n)
    unfold turnF
    refine ⟨by rw [c2.2.2, c1.2.2]; exact hl, fun i hi => by rw [c2.2.2, c1.2.2]; exact hg i hi, ?_, ?_⟩
    · rw [c2.1, c2.2.1, c1.1, c1.2.1]
      exact h.c.same k2 k5
    · exact LMid.turn2 (LInv.turn1 (s := { s with l := s.l ++ [g n] }) h.v hn k34) k34
  · simp only [if_neg k1, if_neg k2, if_neg k5, if_neg k34]
    exact ⟨hl, hg, h.c.same k2 k5, h.v.same (fun q => k34 (.inl q)) (fun q => k34 (.inr q))⟩
end Go.Proofs.Ythniclbmpeklmaa.Au
end
section
namespace Go.Proofs.Ythniclbmpeklmaa.Au
set_option linter.unusedVariables false
theorem get_mem {α : Type} {l : List α} {x : α} {j : Nat} (h : l[j]? = some x) : x ∈ l := by
  obtain ⟨hj, rfl⟩ := List.getElem?_eq_some_iff.1 h
  exact List.getElem_mem hj
end Go.Proofs.Ythniclbmpeklmaa.Au
end
section
namespace Go.Proofs.Ythniclbmpeklmaa.Au
open Go.RowKit Go.Maps Go.Proofs.YthniclbmpeklmaaW.PrintWords Go.Proofs.YthniclbmpeklmaaW.PrintLast Go.Proofs.YthniclbmpeklmaaW.PrintMore Go.Proofs.Ythniclbmpeklmaa.Mp
set_option linter.unusedVariables false
set_option linter.unusedSimpArgs false
variable {α : Type}
abbrev evA (e : Ev) : Array Value := #[.int .i64 e.k, .int .i64 e.wk, .int .i64 e.op, .int .i64 e.hn, .int .i64 e.hg, .int .i64 e.nn, .int .i64 e.ng, .int .i64 e.t, .int .i64 e.a, .int .i64 e.u, .bool e.y, .int .i64 e.er]
abbrev lfA (x : Life) : Array Value := #[.int .i64 x.hn, .int .i64 x.hg, .int .i64 x.made, .int .i64 x.wk, .int .i64 x.til, .int .i64 x.dl]
abbrev clA (q : Cl) : Array Value := #[.int .i64 q.e.k, .int .i64 q.e.wk, .int .i64 q.e.op, .int .i64 q.e.hn, .int .i64 q.e.hg, .int .i64 q.e.nn, .int .i64 q.e.ng, .int .i64 q.e.t, .int .i64 q.e.a, .int .i64 q.e.u, .bool q.e.y, .int .i64 q.e.er, .int .i64 q.beg, .int .i64 q.clk, .int .i64 q.en]
abbrev haV (h : Ha) : Value := .agg #[.int .i64 h.1, .int .i64 h.2]
abbrev nV (f : α → Option Nat) : α → Option Value := fun x => (f x).map fun j => .int .i64 (j : Int)
/-- A row of elements of so many cells each. -/
def RowIs (w : World) (B T k : Nat) (A : α → Array Value) (v : Value) (l : List α) : Prop := w.ownsRow B T k v l.length (l.flatMap fun x => (A x).toList)
theorem flat_get {A : α → Array Value} {k : Nat} (hA : ∀ x, (A x).size = k) : ∀ (l : List α) (i j : Nat) (x : α), l[i]? = some x → j < k → (l.flatMap fun x => (A x).toList)[i * k + j]? = (A x)[j]?
  | [], i, j, x, h, hj => by simp at h
  | y :: l, 0, j, x, h, hj => by
    obtain rfl : y = x := by simpa using h
    rw [List.flatMap_cons, List.getElem?_append_left (by simp [hA]; omega)]
    simp
  | y :: l, i + 1, j, x, h, hj => by
    rw [List.flatMap_cons, List.getElem?_append_right (by simp only [Array.length_toList, hA]; rw [Nat.succ_mul]; omega)]
    rw [Array.length_toList, hA, show (i + 1) * k + j - k = i * k + j by rw [Nat.succ_mul]; omega]
    exact flat_get hA l i j x (by simpa using h) hj
theorem flat_set {A : α → Array Value} {k : Nat} (hA : ∀ x, (A x).size = k) : ∀ (l : List α) (i j : Nat) (x x' : α) (u : Value), l[i]? = some x → j < k → A x' = (A x).setIfInBounds j u → ((l.set i x').flatMap fun x => (A x).toList) = (l.flatMap fun x => (A x).toList).set (i * k + j) u
  | [], i, j, x, x', u, h, hj, e => by simp at h
  | y :: l, 0, j, x, x', u, h, hj, e => by
    obtain rfl : y = x := by simpa using h
    rw [List.set_cons_zero, List.flatMap_cons, List.flatMap_cons, Nat.zero_mul, Nat.zero_add, List.set_append, if_pos (by simp [hA]; omega), e]
    simp
  | y :: l, i + 1, j, x, x', u, h, hj, e => by
    rw [List.set_cons_succ, List.flatMap_cons, List.flatMap_cons, flat_set hA l i j x x' u (by simpa using h) hj e]
    rw [List.set_append, if_neg (by simp only [Array.length_toList, hA]; rw [Nat.succ_mul]; omega)]
    rw [Array.length_toList, hA, show (i + 1) * k + j - k = i * k + j by rw [Nat.succ_mul]; omega]
section
variable {w w1 : World} {B T k : Nat} {A : α → Array Value} {v : Value} {l : List α}
theorem RowIs.nil (w : World) (B T k : Nat) (A : α → Array Value) : RowIs w B T k A (.slice none 0 0) ([] : List α) := World.ownsRow_nil w B T k
/-- An element's cells. -/
theorem RowIs.at_ (h : RowIs w B T k A v l) (hA : ∀ x, (A x).size = k) {i : Nat} {x : α} (hx : l[i]? = some x) : ∃ g cap, v = .slice (some ⟨g, 0, none⟩) l.length cap ∧ l.length ≤ cap ∧ g < w.heap.size ∧ ∀ j, j < k → w.cell? ⟨g, i * k + j, none⟩ = (A x)[j]? := by
  have hi : i < l.length := (List.getElem?_eq_some_iff.1 hx).1
  rcases h.2 with ⟨rfl, hn⟩ | ⟨g, cap, cur, rfl, _, hg, hnc, _, hcs, htake⟩
  · omega
  · refine ⟨g, cap, rfl, hnc, blk_lt hg, fun j hj => ?_⟩
    have hlt : i * k + j < l.length * k := by
      have : (i + 1) * k ≤ l.length * k := Nat.mul_le_mul_right _ hi
      rw [Nat.succ_mul] at this
      omega
    rw [blk_cell hg, ← flat_get hA l i j x hx hj, ← htake, List.getElem?_take_of_lt hlt]
    simp
/-- An element's cell is another one. -/
theorem RowIs.put {g cap : Nat} (h : RowIs w B T k A (.slice (some ⟨g, 0, none⟩) l.length cap) l) (hA : ∀ x, (A x).size = k) {i j : Nat} {x x' : α} {u : Value} (hx : l[i]? = some x) (hj : j < k) (e : A x' = (A x).setIfInBounds j u) :
    RowIs (w.setCell ⟨g, i * k + j, none⟩ u) B T k A (.slice (some ⟨g, 0, none⟩) (l.set i x').length cap) (l.set i x') := by
  have hi : i < l.length := (List.getElem?_eq_some_iff.1 hx).1
  unfold RowIs
  rw [flat_set hA l i j x x' u hx hj e]
  rcases h.2 with ⟨hn, _⟩ | ⟨g', cap', cur, hv, hb, hg, hnc, hcm, hcs, htake⟩
  · cases hn
  · obtain ⟨rfl, rfl⟩ : g' = g ∧ cap' = cap := by injection hv with a b c; injection a with a; injection a with a; exact ⟨a.symm, c.symm⟩
    refine ⟨by rw [List.length_set, List.length_set]; exact h.1, .inr ⟨g', cap', cur.setIfInBounds (i * k + j) u, rfl, hb, blk_set hg _ _, by simpa using hnc, hcm, by simpa using hcs, ?_⟩⟩
    rw [List.length_set, Array.toList_setIfInBounds, ← htake, List.take_set]
theorem RowIs.kept {row : Option Nat} (h : RowIs w B T k A v l) (hg : w.grownBy w1 row) (hne : v.ownBlock = none ∨ v.ownBlock ≠ row) : RowIs w1 B T k A v l := World.ownsRow.kept h hg hne
theorem RowIs.below (h : RowIs w B T k A v l) (hb : Below w.heap.size w w1) : RowIs w1 B T k A v l := pw_own_below h hb
theorem RowIs.own (h : RowIs w B T k A v l) {g : Nat} (hg : v.ownBlock = some g) : ∃ cur, w.heap[g]? = some (.cells cur T (0, 0)) := by
  rcases h.2 with ⟨rfl, hn⟩ | ⟨g', cap, cur, rfl, _, hb, _⟩
  · cases hg
  · obtain rfl : g' = g := by simpa [Value.ownBlock] using hg
    exact ⟨cur, hb⟩
theorem RowIs.far (h : RowIs w B T k A v l) {p : Addr} (hp : v.ownBlock ≠ some p.block) (u : Value) : RowIs (w.setCell p u) B T k A v l := by
  refine ⟨h.1, ?_⟩
  rcases h.2 with hn | ⟨g, cap, cur, rfl, hb, hg, rest⟩
  · exact .inl hn
  · exact .inr ⟨g, cap, cur, rfl, hb, blk_far hg (fun e => hp (by simp [Value.ownBlock, e])) u, rest⟩
end
theorem RowIs.form {α : Type} {w : World} {B T k : Nat} {A : α → Array Value} {v : Value} {l : List α} (h : RowIs w B T k A v l) : ∃ a cap, v = .slice a l.length cap ∧ l.length ≤ cap := by
  rcases h.2 with ⟨rfl, hn⟩ | ⟨g, cap, cur, rfl, _, hg, hnc, _⟩
  · exact ⟨none, 0, by rw [hn], by omega⟩
  · exact ⟨_, cap, rfl, hnc⟩
/-- The story's cells, and the story in memory. -/
abbrev stA (vl vv vc : Value) (m1 m2 : Nat) : Array Value := #[vl, vv, .map (some m1), vc, .map (some m2)]
structure StIs (w : World) (B b n : Nat) (s : Story) (vl vv vc : Value) (m1 m2 : Nat) : Prop where
  blk : w.heap[b]? = some (.cells (stA vl vv vc m1 m2) 97 (0, 0))
  rl : RowIs w B 54 12 evA vl s.l
  rv : RowIs w B 99 6 lfA vv s.lives
  rc : RowIs w B 103 15 clA vc s.calls
  ma : ∃ z, z ≤ n ∧ MapIs haV Try.prog 34 w m1 z (nV s.at_)
  mo : ∃ z, z ≤ n ∧ MapIs (Value.int .i64) Try.prog 3 w m2 z (nV s.opn)
  hb : B ≤ b
  h1 : B ≤ m1
  h2 : B ≤ m2
  m12 : m1 ≠ m2
theorem lawI : Keyed Try.prog 3 := int_keyed Try.underlying3
theorem laidOut_ : laidOutB Try.prog = true := by kernel_rfl
theorem lawH : Keyed Try.prog 34 := Keyed.of_law (deep_law_laid laidOut_ (m := 3) (by decide) (of_decide_eq_true (by kernel_rfl)) (by kernel_rfl) (by kernel_rfl))
theorem ha_inj (x y : Ha) (h : haV x = haV y) : x = y := by
  injection h with h
  have h1 := congrArg (fun a => a[0]?) h
  have h2 := congrArg (fun a => a[1]?) h
  simp at h1 h2
  exact Prod.ext h1 h2
theorem int_inj' (x y : Int) (h : Value.int .i64 x = Value.int .i64 y) : x = y := by injection h
theorem zeroI (w : World) : (zeroValue 3).run Try.prog w = .ok (.int .i64 0) w := by kernel_rfl
section
variable {w w1 : World} {B b n m1 m2 : Nat} {s : Story} {vl vv vc : Value}
theorem types_ne {w : World} {g g' : Nat} {c c' : Array Value} {t t' : TypeId} (h : w.heap[g]? = some (.cells c t (0, 0))) (h' : w.heap[g']? = some (.cells c' t' (0, 0))) (e : t ≠ t') : g ≠ g' := by
  rintro rfl
  rw [h] at h'
  injection h' with h'
  injection h' with _ h'
  exact e h'
theorem map_ne {w : World} {g g' : Nat} {c : Array Value} {t : TypeId} {es : Array MapEntry} {cl : Nat} (h : w.heap[g]? = some (.cells c t (0, 0))) (h' : w.heap[g']? = some (.map es cl)) : g ≠ g' := by
  rintro rfl
  rw [h] at h'
  injection h' with h'
  cases h'
/-- What doesn't touch the story's blocks keeps it. -/
theorem StIs.move (h : StIs w B b n s vl vv vc m1 m2) (hb : ∀ g, g < w.heap.size → w1.heap[g]? = w.heap[g]?) : StIs w1 B b n s vl vv vc m1 m2 := by
  have row : ∀ {α : Type} {B T k : Nat} {A : α → Array Value} {v : Value} {l : List α}, RowIs w B T k A v l → RowIs w1 B T k A v l := fun r => by
    refine ⟨r.1, ?_⟩
    rcases r.2 with hn | ⟨g, cap, cur, rfl, hbase, hg, rest⟩
    · exact .inl hn
    · exact .inr ⟨g, cap, cur, rfl, hbase, (hb g (blk_lt hg)).trans hg, rest⟩
  obtain ⟨z1, hz1, h1⟩ := h.ma
  obtain ⟨z2, hz2, h2⟩ := h.mo
  exact ⟨(hb b (blk_lt h.blk)).trans h.blk, row h.rl, row h.rv, row h.rc, ⟨z1, hz1, h1.move (hb m1 h1.lt)⟩, ⟨z2, hz2, h2.move (hb m2 h2.lt)⟩, h.hb, h.h1, h.h2, h.m12⟩
theorem StIs.up {n' : Nat} (h : StIs w B b n s vl vv vc m1 m2) (hn : n ≤ n') : StIs w B b n' s vl vv vc m1 m2 := by
  obtain ⟨z1, hz1, h1⟩ := h.ma
  obtain ⟨z2, hz2, h2⟩ := h.mo
  exact ⟨h.blk, h.rl, h.rv, h.rc, ⟨z1, by omega, h1⟩, ⟨z2, by omega, h2⟩, h.hb, h.h1, h.h2, h.m12⟩
theorem StIs.below (h : StIs w B b n s vl vv vc m1 m2) (hb : Below w.heap.size w w1) : StIs w1 B b n s vl vv vc m1 m2 := h.move fun g hg => hb.block g hg
theorem StIs.alloc (h : StIs w B b n s vl vv vc m1 m2) (o : Obj) : StIs (w.alloc o) B b n s vl vv vc m1 m2 := h.below (below_alloc (Below.refl _ _) o)
theorem StIs.drew (h : StIs w B b n s vl vv vc m1 m2) : StIs w.drew B b n s vl vv vc m1 m2 := h.move fun g hg => rfl
theorem StIs.drewN (h : StIs w B b n s vl vv vc m1 m2) (q : Nat) : StIs (w.drewN q) B b n s vl vv vc m1 m2 := h.move fun g hg => rfl
theorem StIs.cell (h : StIs w B b n s vl vv vc m1 m2) (i : Nat) : w.cell? ⟨b, i, none⟩ = (stA vl vv vc m1 m2)[i]? := blk_cell h.blk i
theorem StIs.lt (h : StIs w B b n s vl vv vc m1 m2) : b < w.heap.size := blk_lt h.blk
end
/-- What stays: all old blocks but some. -/
structure Fr (w w' : World) (S : Nat → Prop) : Prop where
  os : w'.os = w.os
  tape : w'.tape = w.tape
  output : w'.output = w.output
  size : w.heap.size ≤ w'.heap.size
  block : ∀ g, g < w.heap.size → ¬ S g → w'.heap[g]? = w.heap[g]?
section
variable {w w1 w2 : World} {S S' : Nat → Prop}
theorem Fr.refl (w : World) (S : Nat → Prop) : Fr w w S := ⟨rfl, rfl, rfl, Nat.le_refl _, fun _ _ _ => rfl⟩
theorem Fr.trans (h : Fr w w1 S) (h' : Fr w1 w2 S) : Fr w w2 S := ⟨h'.os.trans h.os, h'.tape.trans h.tape, h'.output.trans h.output, Nat.le_trans h.size h'.size, fun g hg hs => (h'.block g (Nat.lt_of_lt_of_le hg h.size) hs).trans (h.block g hg hs)⟩
theorem Fr.mono (h : Fr w w1 S) (hs : ∀ g, S g → S' g) : Fr w w1 S' := ⟨h.os, h.tape, h.output, h.size, fun g hg hn => h.block g hg (fun q => hn (hs g q))⟩
theorem Fr.of_below (h : Below w.heap.size w w1) (S : Nat → Prop) : Fr w w1 S := ⟨h.os, h.tape, h.output, h.size, fun g hg _ => h.block g hg⟩
theorem Fr.of_grown {row : Option Nat} (h : w.grownBy w1 row) : Fr w w1 (fun g => some g = row) := ⟨h.os, h.tape, h.output, h.size, fun g hg hn => h.block g hg hn⟩
theorem Fr.alloc (h : Fr w w1 S) (o : Obj) : Fr w (w1.alloc o) S := h.trans (Fr.of_below (below_alloc (Below.refl _ _) o) S)
theorem Fr.drew (h : Fr w w1 S) : Fr w w1.drew S := ⟨h.os, h.tape, h.output, h.size, h.block⟩
theorem Fr.drewN (h : Fr w w1 S) (n : Nat) : Fr w (w1.drewN n) S := ⟨h.os, h.tape, h.output, h.size, h.block⟩
theorem Fr.set (h : Fr w w1 S) (p : Addr) (u : Value) (hp : w.heap.size ≤ p.block ∨ S p.block) : Fr w (w1.setCell p u) S :=
  ⟨h.os, h.tape, h.output, by simpa using h.size, fun g hg hn => (Below.heap_setCell w1 p u g (fun e => by subst e; rcases hp with q | q; omega; exact hn q)).trans (h.block g hg hn)⟩
theorem Fr.below {B : Nat} (h : Fr w w1 S) (hB : B ≤ w.heap.size) (hs : ∀ g, S g → B ≤ g) : Below B w w1 := ⟨h.os, h.tape, h.output, h.size, fun g hg => h.block g (by omega) (fun q => by have := hs g q; omega)⟩
theorem Fr.blk {g : Nat} {o : Obj} (h : Fr w w1 S) (hb : w.heap[g]? = some o) (hn : ¬ S g) : w1.heap[g]? = some o := (h.block g (blk_lt hb) hn).trans hb
end
end Go.Proofs.Ythniclbmpeklmaa.Au
end
section
namespace Go.Proofs.Ythniclbmpeklmaa.Au
open Go.RowKit Go.Maps Go.Proofs.YthniclbmpeklmaaW.PrintWords Go.Proofs.YthniclbmpeklmaaW.PrintLast Go.Proofs.YthniclbmpeklmaaW.PrintMore Go.Proofs.Ythniclbmpeklmaa.Mp
set_option linter.unusedVariables false
set_option linter.unusedSimpArgs false
theorem litsH (d : Nat) (x y : Int) (hx : (Lit.int .i64 x).wf = true) (hy : (Lit.int .i64 y).wf = true) : Try.prog.keyLits (d + 2) 34 [.int .i64 x, .int .i64 y] = some [.int .i64 x, .int .i64 y] := by
  have h34 := Try.underlying34
  have h3 := Try.underlying3
  have c34 : Try.prog.cellsOf 34 = 2 := by kernel_rfl
  have c3 : Try.prog.cellsOf 3 = 1 := by kernel_rfl
  simp [Program.keyLits, h34, h3, c34, c3, hx, hy]
theorem keyH (x y : Int) (hx : (Lit.int .i64 x).wf = true) (hy : (Lit.int .i64 y).wf = true) : ∃ kl, keyOf Try.prog 34 (haV (x, y)) = some kl := by
  have h34 := Try.underlying34
  have c34 : Try.prog.cellsOf 34 = 2 := by kernel_rfl
  have hk : Try.prog.keyType 34 = true := by kernel_rfl
  have hs : Try.prog.types.size = (Try.prog.types.size - 1) + 1 := by kernel_rfl
  have hf : (haV (x, y)).formed Try.prog 34 = true := by simp [Value.formed, h34, c34]
  refine ⟨.string (keyBytes [.int .i64 x, .int .i64 y]), ?_⟩
  unfold keyOf
  rw [h34]
  simp only [hk, hf, Bool.and_self, if_true]
  rw [show (haV (x, y)).cells.toList = [.int .i64 x, .int .i64 y] from rfl, hs, litsH _ x y hx hy]
  rfl
section
variable {α : Type} {W : World} {B T k : Nat} {A : α → Array Value} {v : Value} {l : List α} {o : Oper} {a : Act} {K : Act → World → Prop} {Q : Exit → Act → World → Prop} {ops : Array Oper} {rest : List Oper}
theorem if_wp {P : Program} {E : Prop} (hgd : o.guard = none) (h : o.wp P a W K Q) : if Region.wanted o (yielded ops a.tmps) = true then Oper.wp P o a W K Q else E := by
  rw [if_pos (by simp [Region.wanted, hgd])]
  exact h
end
section
variable {w W W1 : World} {B b n m1 m2 : Nat} {s : Story} {vl vv vc : Value}
/-- A row has grown: the others, the maps and the head stay. -/
theorem StIs.others {T k : Nat} {β : Type} {A : β → Array Value} {v : Value} {l : List β} (h : StIs W B b n s vl vv vc m1 m2) (r : RowIs W B T k A v l) (hg : W.grownBy W1 v.ownBlock) (hT : 97 ≠ T) :
    W1.heap[b]? = some (.cells (stA vl vv vc m1 m2) 97 (0, 0)) ∧ (54 ≠ T → RowIs W1 B 54 12 evA vl s.l) ∧ (99 ≠ T → RowIs W1 B 99 6 lfA vv s.lives) ∧ (103 ≠ T → RowIs W1 B 103 15 clA vc s.calls) ∧
      (∃ z, z ≤ n ∧ MapIs haV Try.prog 34 W1 m1 z (nV s.at_)) ∧ (∃ z, z ≤ n ∧ MapIs (Value.int .i64) Try.prog 3 W1 m2 z (nV s.opn)) := by
  obtain ⟨z1, hz1, hm1⟩ := h.ma
  obtain ⟨z2, hz2, hm2⟩ := h.mo
  obtain ⟨_, _, q1⟩ := hm1.block
  obtain ⟨_, _, q2⟩ := hm2.block
  have ne_map : ∀ (g : Nat) es cl, W.heap[g]? = some (.map es cl) → some g ≠ v.ownBlock := fun g es cl hq q => by
    obtain ⟨cur, hc⟩ := r.own q.symm
    exact map_ne hc hq rfl
  have ne_typ : ∀ (g t : Nat) cs, W.heap[g]? = some (.cells cs t (0, 0)) → t ≠ T → some g ≠ v.ownBlock := fun g t cs hq ht q => by
    obtain ⟨cur, hc⟩ := r.own q.symm
    exact types_ne hq hc ht rfl
  have row : ∀ {α : Type} {T' k : Nat} {A : α → Array Value} {v : Value} {l : List α}, RowIs W B T' k A v l → T' ≠ T → RowIs W1 B T' k A v l := by
    intro α T' k A v' l r' ht
    refine r'.kept hg ?_
    cases hv : v'.ownBlock with
    | none => exact .inl rfl
    | some g => exact .inr (fun q => by obtain ⟨cur, hc⟩ := r'.own hv; exact ne_typ g _ _ hc ht q)
  exact ⟨blk_grown h.blk hg (ne_typ _ _ _ h.blk hT), row h.rl, row h.rv, row h.rc, ⟨z1, hz1, hm1.move (hg.block m1 hm1.lt (ne_map _ _ _ q1))⟩, ⟨z2, hz2, hm2.move (hg.block m2 hm2.lt (ne_map _ _ _ q2))⟩⟩
end
end Go.Proofs.Ythniclbmpeklmaa.Au
end
section
namespace Go.Proofs.Ythniclbmpeklmaa.Ev
open Go.RowKit Go.Proofs.YthniclbmpeklmaaW.PrintWords Go.Proofs.YthniclbmpeklmaaW.PrintLast Go.Proofs.YthniclbmpeklmaaW.PrintMore
set_option linter.unusedVariables false
set_option linter.unusedSimpArgs false
/-- An event's cells. -/
abbrev evC (k wk op hn hg nn ng t a u : Int) (y : Bool) (er : Int) : Array Value := #[.int .i64 k, .int .i64 wk, .int .i64 op, .int .i64 hn, .int .i64 hg, .int .i64 nn, .int .i64 ng, .int .i64 t, .int .i64 a, .int .i64 u, .bool y, .int .i64 er]
end Go.Proofs.Ythniclbmpeklmaa.Ev
end
section
namespace Go.Proofs.Ythniclbmpeklmaa.Ev
open Go.RowKit Go.Proofs.YthniclbmpeklmaaW.PrintWords Go.Proofs.YthniclbmpeklmaaW.PrintLast Go.Proofs.YthniclbmpeklmaaW.PrintMore
set_option linter.unusedVariables false
set_option linter.unusedSimpArgs false
def in3 (x y z n : Int) : Bool := x == n || (y == n || z == n)
def made (op : Int) : Bool := op == 1 || op == 3
def hasN (k op er : Int) : Bool := (k == 3 || k == 5) && made op && er == 0
def hasT (k op er : Int) : Bool := k == 1 || k == 4 || k == 2 && made op || k == 3 && made op && er == 0 || k == 5 && (op == 6 || op == 7)
def hasA (k op : Int) : Bool := k == 2 && (op == 1 || op == 4)
def hasU (k op : Int) : Bool := k == 4 || k == 2 && op == 1
def hasY (k op : Int) : Bool := (k == 3 || k == 5) && op == 2
def hasE (k op : Int) : Bool := (k == 3 || k == 5) && in3 1 3 4 op
def hasH (k op : Int) : Bool := k == 4 || ((k == 2 && in3 2 3 4 op) || (k == 3 && in3 2 3 4 op))
end Go.Proofs.Ythniclbmpeklmaa.Ev
end
section
namespace Go.Proofs.Ythniclbmpeklmaa.Ev
open Go.RowKit Go.Proofs.YthniclbmpeklmaaW.PrintWords Go.Proofs.YthniclbmpeklmaaW.PrintLast Go.Proofs.YthniclbmpeklmaaW.PrintMore
set_option linter.unusedVariables false
set_option linter.unusedSimpArgs false
/-- Two blocks of the call's own, as they were laid. -/
structure Two (w W : World) (o1 o2 : Obj) : Prop where
  below : Below w.heap.size w W
  one : W.heap[w.heap.size]? = some o1
  two : W.heap[w.heap.size + 1]? = some o2
theorem Two.start (w : World) (o1 o2 : Obj) : Two w ((w.alloc o1).alloc o2) o1 o2 :=
  ⟨below_alloc (below_alloc (Below.refl _ _) _) _, by rw [Below.heap_alloc _ _ _ (by simp)]; exact heap_alloc_new w o1, by have := heap_alloc_new (w.alloc o1) o2; simpa using this⟩
theorem Two.size {w W : World} {o1 o2 : Obj} (h : Two w W o1 o2) : w.heap.size + 1 < W.heap.size := (Array.getElem?_eq_some_iff.1 h.two).1
theorem Two.step {w W W1 : World} {o1 o2 : Obj} (h : Two w W o1 o2) (hb : Below W.heap.size W W1) : Two w W1 o1 o2 :=
  ⟨below_step h.below hb, (hb.block _ (by have := h.size; omega)).trans h.one, (hb.block _ h.size).trans h.two⟩
theorem Two.cell {w W : World} {cs : Array Value} {t : TypeId} {o2 : Obj} (h : Two w W (.cells cs t (0, 0)) o2) (i : Nat) : W.cell? ⟨w.heap.size, i, none⟩ = cs[i]? := blk_cell h.one i
/-- Is what an event hasn't nothing? -/
def emptyB (k op hn hg nn ng t a u : Int) (y : Bool) (er : Int) : Bool :=
  !(!hasH k op && !(hn == 0 && hg == 0) || !hasN k op er && !(nn == 0 && ng == 0) || !hasT k op er && t != 0 || !hasA k op && a != 0) && ((hasU k op || u == 0) && (hasY k op || !y) && (hasE k op || er == 0))
end Go.Proofs.Ythniclbmpeklmaa.Ev
end
section
namespace Go.Proofs.Ythniclbmpeklmaa.Ev
open Go.RowKit Go.Proofs.YthniclbmpeklmaaW.PrintWords Go.Proofs.YthniclbmpeklmaaW.PrintLast Go.Proofs.YthniclbmpeklmaaW.PrintMore
set_option linter.unusedVariables false
set_option linter.unusedSimpArgs false
/-- Is there such a kind, with such an operation? -/
def kindB (k wk op : Int) : Bool :=
  (k == 1 && (op == 0 && wk == 0)) || (k == 4 && op == 0) || ((k == 2 || k == 5) && (decide (1 ≤ op) && decide (op ≤ 7))) || (k == 3 && (decide (1 ≤ op) && decide (op ≤ 4)))
/-- Is an event right? -/
def evRight (k wk op hn hg nn ng t a u : Int) (y : Bool) (er : Int) : Bool :=
  kindB k wk op && emptyB k op hn hg nn ng t a u y er && decide (0 ≤ wk) && decide (0 ≤ er) &&
    (k == 2 || ((k == 3 || (decide (0 ≤ hn) && decide (0 ≤ hg))) && (decide (0 ≤ nn) && decide (0 ≤ ng) && decide (0 ≤ a) && decide (0 ≤ u) && (if k = 5 then decide (-1 ≤ t) else decide (0 ≤ t)))))
end Go.Proofs.Ythniclbmpeklmaa.Ev
end
section
namespace Go.Proofs.Ythniclbmpeklmaa.Ju
open Go.RowKit Go.Proofs.Ythniclbmpeklmaa.Au
set_option linter.unusedVariables false
/-- Is an event right? -/
def rightJ (e : Ev) : Bool := Ev.evRight e.k e.wk e.op e.hn e.hg e.nn e.ng e.t e.a e.u e.y e.er
/-- The model: the time, what became of handles (a status, a deadline), of each node the generation that was made last. -/
structure Md where
  clk : Int
  fat : Ha → Option (Int × Int)
  lst : Int → Option Int
def md0 : Md := ⟨0, fun _ => none, fun _ => none⟩
def Md.st (m : Md) (h : Ha) : Int := ((m.fat h).getD (0, 0)).1
def Md.dl (m : Md) (h : Ha) : Int := ((m.fat h).getD (0, 0)).2
def updF (f : Ha → Option (Int × Int)) (x : Ha) (v : Int × Int) : Ha → Option (Int × Int) := fun l => if l = x then some v else f l
def updL (f : Int → Option Int) (x : Int) (v : Int) : Int → Option Int := fun l => if l = x then some v else f l
def Md.end_ (m : Md) (h : Ha) (s : Int) : Md := { m with fat := updF m.fat h (s, 0) }
def Md.arm (m : Md) (h : Ha) (d : Int) : Md := { m with fat := updF m.fat h (1, d), lst := updL m.lst h.1 h.2 }
/-- May a handle be made by a Start? -/
def Md.startOk (m : Md) (h : Ha) : Bool := !(m.lst h.1).isSome || (m.st (h.1, (m.lst h.1).getD 0) != 1 && decide ((m.lst h.1).getD 0 < h.2))
/-- An operation takes effect. -/
def pointF (m : Md) (e : Ev) : Md × Int :=
  if e.op = 2 ∧ e.y = true then (if m.st e.h = 1 then (m.end_ e.h 3, 0) else (m, 6))
  else if e.op = 2 ∨ (e.er = 4 ∧ e.op ≠ 1) then (if m.st e.h = 1 then (m, 6) else (m, 0))
  else if e.er ≠ 0 then (m, 0)
  else if e.op = 1 then (if m.startOk e.new = true then (m.arm e.new e.t, 0) else (m, 6))
  else if e.op = 4 then (if m.st e.h = 1 then (m, 0) else (m, 6))
  else if m.st e.h = 1 ∧ e.nn = e.hn ∧ e.ng = wrap64 (e.hg + 1) then ((m.end_ e.h 4).arm e.new e.t, 0) else (m, 6)
/-- An event comes about, if it can. -/
def doF (m : Md) (e : Ev) : Md × Int :=
  if rightJ e = false then (m, 8)
  else if e.k = 1 then (if e.t = wrap64 (m.clk + 1) then ({ m with clk := e.t }, 0) else (m, 6))
  else if e.k = 4 then (if m.st e.h = 1 ∧ m.dl e.h ≤ e.t ∧ e.t ≤ m.clk then (m.end_ e.h 2, 0) else (m, 6))
  else if e.k = 3 then pointF m e
  else (m, 8)
/-- What a worker is in: of its Invoke the operation, handle and time; the clock then; what its Point told. -/
structure Wk where
  op : Int
  hn : Int
  hg : Int
  t : Int
  beg : Int
  pt : Option (Int × Int × Bool × Int)
structure Be where
  nw : Int
  m : Md
  wks : Int → Option Wk
def be0 (n : Int) : Be := ⟨n, md0, fun _ => none⟩
def updW (f : Int → Option Wk) (x : Int) (v : Option Wk) : Int → Option Wk := fun l => if l = x then v else f l
def withinB (d t f g : Int) : Bool := decide (t ≤ wrap64 (d - f)) && decide (wrap64 (d - g) ≤ t)
def answersB (w : Wk) (e : Ev) : Bool := match w.pt with
  | none => false
  | some (a, b, y, r) => a == e.nn && b == e.ng && y == e.y && r == e.er
/-- May an operation take effect so? -/
def pointOk (b : Be) (w : Wk) (e : Ev) : Bool :=
  !(w.pt.isSome || (e.op != 1 && !(e.hn == w.hn && e.hg == w.hg))) && !((e.er == 0 && (e.op == 1 || e.op == 3)) && !withinB e.t w.t w.beg b.m.clk)
def ptOf (e : Ev) : Int × Int × Bool × Int := (e.nn, e.ng, e.y, e.er)
def pointB (b : Be) (w : Wk) (e : Ev) : Be × Int :=
  if pointOk b w e = true then
    if (doF b.m e).2 = 0 then ({ b with m := (doF b.m e).1, wks := updW b.wks e.wk (some { w with pt := some (ptOf e) }) }, 0)
    else ({ b with m := (doF b.m e).1 }, (doF b.m e).2)
  else (b, 6)
/-- The next event is heard, if it can be. -/
def hearF (b : Be) (e : Ev) : Be × Int :=
  if rightJ e = false ∨ b.nw ≤ e.wk then (b, 8)
  else if e.k = 1 then ({ b with m := (doF b.m e).1 }, (doF b.m e).2)
  else match b.wks e.wk with
  | none => if e.k = 2 then ({ b with wks := updW b.wks e.wk (some ⟨e.op, e.hn, e.hg, e.t, b.m.clk, none⟩) }, 0) else (b, 6)
  | some w =>
    if e.k = 2 then (b, 6)
    else if e.k = 4 then (if w.op ≠ 5 ∨ e.t < w.beg then (b, 6) else ({ b with m := (doF b.m e).1 }, (doF b.m e).2))
    else if w.op ≠ e.op then (b, 6)
    else if e.k = 3 then pointB b w e
    else if e.op ≤ 4 ∧ answersB w e = false then (b, 6)
    else ({ b with wks := updW b.wks e.wk none }, 0)
/-- The first event that can't be, from a bench on. -/
def goF (b : Be) : List Ev → Option (Nat × Int)
  | [] => none
  | e :: l => if (hearF b e).2 = 0 then (goF (hearF b e).1 l).map (fun p => (p.1 + 1, p.2)) else some (0, (hearF b e).2)
def outF : Option (Nat × Int) → Int × Int
  | none => (-1, 0)
  | some (i, k) => ((i : Int), k)
def judgeF (l : List Ev) (n : Int) : Int × Int := if n < 1 ∨ 64 < n then (-1, 1) else outF (goF (be0 n) l)
/-- The bench behind some events (whatever they are). -/
def benchF (b : Be) : List Ev → Be
  | [] => b
  | e :: l => benchF (hearF b e).1 l
theorem benchF_snoc (b : Be) (l : List Ev) (e : Ev) : benchF b (l ++ [e]) = (hearF (benchF b l) e).1 := by
  induction l generalizing b with
  | nil => rfl
  | cons x l ih => exact ih _
theorem hear_nw (b : Be) (e : Ev) : (hearF b e).1.nw = b.nw := by
  unfold hearF pointB
  split
  · rfl
  · split
    · rfl
    · split
      · split <;> rfl
      · split
        · rfl
        · split
          · split <;> rfl
          · split
            · rfl
            · split
              · split
                · split <;> rfl
                · rfl
              · split <;> rfl
theorem goF_some {b : Be} {l : List Ev} {i : Nat} {k : Int} (h : goF b l = some (i, k)) : i < l.length ∧ k ≠ 0 ∧ (∀ n, n ≤ i → goF b (l.take n) = none) ∧ goF b (l.take (i + 1)) = some (i, k) := by
  induction l generalizing b i with
  | nil => cases h
  | cons e l ih =>
    unfold goF at h
    by_cases hk : (hearF b e).2 = 0
    · rw [if_pos hk] at h
      cases hg : goF (hearF b e).1 l with
      | none => rw [hg] at h; cases h
      | some p =>
        obtain ⟨j, q⟩ := p
        rw [hg] at h
        simp only [Option.map_some, Option.some.injEq, Prod.mk.injEq] at h
        obtain ⟨rfl, rfl⟩ := h
        obtain ⟨h1, h2, h3, h4⟩ := ih hg
        refine ⟨by simpa using h1, h2, fun n hn => ?_, ?_⟩
        · cases n with
          | zero => rfl
          | succ n =>
            rw [List.take_succ_cons, goF, if_pos hk, h3 n (by omega)]
            rfl
        · rw [List.take_succ_cons, goF, if_pos hk, h4]
          rfl
    · rw [if_neg hk] at h
      simp only [Option.some.injEq, Prod.mk.injEq] at h
      obtain ⟨rfl, rfl⟩ := h
      refine ⟨by simp, hk, fun n hn => ?_, ?_⟩
      · obtain rfl : n = 0 := by omega
        rfl
      · rw [List.take_succ_cons, goF, if_neg hk]
theorem goF_none {b : Be} {l : List Ev} (h : goF b l = none) (n : Nat) : goF b (l.take n) = none := by
  induction l generalizing b n with
  | nil => rw [List.take_nil]; exact h
  | cons e l ih =>
    cases n with
    | zero => rfl
    | succ n =>
      unfold goF at h
      by_cases hk : (hearF b e).2 = 0
      · rw [if_pos hk] at h
        rw [List.take_succ_cons, goF, if_pos hk, ih (Option.map_eq_none_iff.1 h) n]
        rfl
      · rw [if_neg hk] at h; cases h
/-- Step by step. -/
theorem goF_snoc (b : Be) (l : List Ev) (e : Ev) (h : goF b l = none) : goF b (l ++ [e]) = if (hearF (benchF b l) e).2 = 0 then none else some (l.length, (hearF (benchF b l) e).2) := by
  induction l generalizing b with
  | nil =>
    show goF b [e] = _
    unfold goF benchF
    split <;> rfl
  | cons x l ih =>
    unfold goF at h
    by_cases hk : (hearF b x).2 = 0
    · rw [if_pos hk] at h
      rw [List.cons_append, goF, if_pos hk, ih _ (Option.map_eq_none_iff.1 h), benchF]
      split <;> rfl
    · rw [if_neg hk] at h; cases h
theorem goF_app {b : Be} {l l' : List Ev} {p : Nat × Int} (h : goF b l = some p) : goF b (l ++ l') = some p := by
  induction l generalizing b p with
  | nil => cases h
  | cons x l ih =>
    unfold goF at h
    rw [List.cons_append, goF]
    by_cases hk : (hearF b x).2 = 0
    · rw [if_pos hk] at h
      rw [if_pos hk]
      cases hg : goF (hearF b x).1 l with
      | none => rw [hg] at h; cases h
      | some q => rw [hg] at h; rw [ih hg]; exact h
    · rw [if_neg hk] at h
      rw [if_neg hk]
      exact h
/-- Two workers' numbers changed for one another. -/
def sw (x y n : Int) : Int := if n = x then y else if n = y then x else n
def swE (x y : Int) (e : Ev) : Ev := if e.k = 1 then e else { e with wk := sw x y e.wk }
theorem sw_sw (x y n : Int) : sw x y (sw x y n) = n := by unfold sw; repeat' split <;> omega
theorem sw_inj {x y a b : Int} (h : sw x y a = sw x y b) : a = b := by have := congrArg (sw x y) h; rwa [sw_sw, sw_sw] at this
theorem sw_nn {x y n : Int} (hx : 0 ≤ x) (hy : 0 ≤ y) : 0 ≤ sw x y n ↔ 0 ≤ n := by unfold sw; split <;> (try split) <;> omega
theorem sw_le {x y n w : Int} (hx : x < w) (hy : y < w) : w ≤ sw x y n ↔ w ≤ n := by unfold sw; split <;> (try split) <;> omega
theorem right_sw {x y : Int} (hx : 0 ≤ x) (hy : 0 ≤ y) (e : Ev) : rightJ (swE x y e) = rightJ e := by
  unfold swE
  split
  · rfl
  · rename_i hk
    unfold rightJ Ev.evRight
    have h1 : Ev.kindB e.k (sw x y e.wk) e.op = Ev.kindB e.k e.wk e.op := by
      unfold Ev.kindB
      rw [beq_eq_false_iff_ne.2 hk]
      rfl
    have h2 : decide (0 ≤ sw x y e.wk) = decide (0 ≤ e.wk) := by rw [decide_eq_decide]; exact sw_nn hx hy
    simp only
    rw [h1, h2]
theorem do_sw {x y : Int} (hx : 0 ≤ x) (hy : 0 ≤ y) (m : Md) (e : Ev) : doF m (swE x y e) = doF m e := by
  unfold doF
  rw [right_sw hx hy]
  by_cases hk : e.k = 1
  · rw [show swE x y e = e from if_pos hk]
  · rw [show swE x y e = { e with wk := sw x y e.wk } from if_neg hk]
    rfl
/-- The same bench, but for two numbers. -/
def SwB (x y : Int) (b b' : Be) : Prop := b'.nw = b.nw ∧ b'.m = b.m ∧ ∀ w, b'.wks (sw x y w) = b.wks w
theorem upd_sw {x y : Int} {f f' : Int → Option Wk} (h : ∀ w, f' (sw x y w) = f w) (z : Int) (v : Option Wk) : ∀ w, updW f' (sw x y z) v (sw x y w) = updW f z v w := by
  intro w
  unfold updW
  by_cases e : w = z
  · rw [if_pos e, if_pos (by rw [e])]
  · rw [if_neg e, if_neg (fun q => e (sw_inj q)), h]
theorem hear_sw {x y : Int} {b b' : Be} (hx : 0 ≤ x) (hy : 0 ≤ y) (hxn : x < b.nw) (hyn : y < b.nw) (h : SwB x y b b') (e : Ev) : (hearF b' (swE x y e)).2 = (hearF b e).2 ∧ SwB x y (hearF b e).1 (hearF b' (swE x y e)).1 := by
  obtain ⟨h1, h2, h3⟩ := h
  unfold hearF
  rw [right_sw hx hy, do_sw hx hy, h1, h2]
  by_cases k1 : e.k = 1
  · have hs : swE x y e = e := if_pos k1
    rw [hs]
    split
    · exact ⟨rfl, h1, h2, h3⟩
    · exact ⟨rfl, rfl, rfl, h3⟩
  · have hs : swE x y e = { e with wk := sw x y e.wk } := if_neg k1
    have hc : (rightJ e = false ∨ b.nw ≤ (swE x y e).wk) ↔ (rightJ e = false ∨ b.nw ≤ e.wk) := by
      rw [hs]
      exact or_congr Iff.rfl (sw_le hxn hyn)
    by_cases hg : rightJ e = false ∨ b.nw ≤ e.wk
    · rw [if_pos hg, if_pos (hc.2 hg)]
      exact ⟨rfl, h1, h2, h3⟩
    · rw [if_neg hg, if_neg (fun q => hg (hc.1 q)), if_neg k1, if_neg (by rw [hs]; exact k1)]
      have hw : b'.wks (swE x y e).wk = b.wks e.wk := by rw [hs]; exact h3 e.wk
      rw [hw]
      have hwk : (swE x y e).wk = sw x y e.wk := by rw [hs]
      cases hb : b.wks e.wk with
      | none =>
        simp only
        have hk : (swE x y e).k = e.k := by rw [hs]
        rw [hk]
        split
        · refine ⟨rfl, rfl, rfl, ?_⟩
          rw [hs]
          exact upd_sw h3 _ _
        · exact ⟨rfl, h1, h2, h3⟩
      | some w =>
        simp only
        have hpo : pointOk b' w (swE x y e) = pointOk b w e := by
          unfold pointOk
          rw [hs, h2]
        have hpb : (pointB b' w (swE x y e)).2 = (pointB b w e).2 ∧ SwB x y (pointB b w e).1 (pointB b' w (swE x y e)).1 := by
          unfold pointB
          rw [hpo, h2, do_sw hx hy]
          split
          · split
            · refine ⟨rfl, h1, rfl, ?_⟩
              rw [hs]
              exact upd_sw h3 _ _
            · exact ⟨rfl, h1, rfl, h3⟩
          · exact ⟨rfl, h1, h2, h3⟩
        have ha : answersB w (swE x y e) = answersB w e := by rw [hs]; rfl
        rw [ha]
        have q1 : (swE x y e).k = e.k := by rw [hs]
        have q2 : (swE x y e).t = e.t := by rw [hs]
        have q3 : (swE x y e).op = e.op := by rw [hs]
        rw [q1, q2, q3, hwk]
        split
        · exact ⟨rfl, h1, h2, h3⟩
        · split
          · split
            · exact ⟨rfl, h1, h2, h3⟩
            · exact ⟨rfl, rfl, rfl, h3⟩
          · split
            · exact ⟨rfl, h1, h2, h3⟩
            · split
              · exact hpb
              · split
                · exact ⟨rfl, h1, h2, h3⟩
                · exact ⟨rfl, rfl, rfl, upd_sw h3 _ _⟩
theorem go_sw {x y : Int} (hx : 0 ≤ x) (hy : 0 ≤ y) (l : List Ev) : ∀ {b b' : Be}, x < b.nw → y < b.nw → SwB x y b b' → goF b' (l.map (swE x y)) = goF b l := by
  induction l with
  | nil => intros; rfl
  | cons e l ih =>
    intro b b' hxn hyn h
    obtain ⟨h1, h2⟩ := hear_sw hx hy hxn hyn h e
    rw [List.map_cons, goF, goF, h1, ih (by rw [hear_nw]; exact hxn) (by rw [hear_nw]; exact hyn) h2]
theorem judge_sw {x y n : Int} (hx : 0 ≤ x) (hy : 0 ≤ y) (hxn : x < n) (hyn : y < n) (l : List Ev) : judgeF (l.map (swE x y)) n = judgeF l n := by
  unfold judgeF
  rw [go_sw hx hy l hxn hyn (b := be0 n) (b' := be0 n) ⟨rfl, rfl, fun _ => rfl⟩]
end Go.Proofs.Ythniclbmpeklmaa.Ju
end
section
namespace Go.Proofs.Ythniclbmpeklmaa.Ju
open Go.RowKit Go.Maps Go.Proofs.YthniclbmpeklmaaW.PrintWords Go.Proofs.YthniclbmpeklmaaW.PrintLast Go.Proofs.YthniclbmpeklmaaW.PrintMore Go.Proofs.Ythniclbmpeklmaa.Mp Go.Proofs.Ythniclbmpeklmaa.Au
set_option linter.unusedVariables false
set_option linter.unusedSimpArgs false
abbrev faV (p : Int × Int) : Value := .agg #[.int .i64 p.1, .int .i64 p.2]
def fV (f : Ha → Option (Int × Int)) : Ha → Option Value := fun x => (f x).map faV
def iV (f : Int → Option Int) : Int → Option Value := fun x => (f x).map (Value.int .i64)
def pV (f : Int → Option Nat) : Int → Option Value := fun x => (f x).map fun g => .pointer (some ⟨g, 0, none⟩)
abbrev mdA (m : Md) (m1 m2 : Nat) : Array Value := #[.int .i64 m.clk, .map (some m1), .map (some m2)]
/-- A model in memory. -/
structure MdIs (w : World) (B b n : Nat) (m : Md) (m1 m2 : Nat) : Prop where
  blk : w.heap[b]? = some (.cells (mdA m m1 m2) 125 (0, 0))
  mf : ∃ z, z ≤ n ∧ MapIs haV Try.prog 34 w m1 z (fV m.fat)
  ml : ∃ z, z ≤ n ∧ MapIs (Value.int .i64) Try.prog 3 w m2 z (iV m.lst)
  hb : B ≤ b
  h1 : B ≤ m1
  h2 : B ≤ m2
  m12 : m1 ≠ m2
theorem zeroFa (w : World) : (zeroValue 122).run Try.prog w = .ok (faV (0, 0)) w := by kernel_rfl
section
variable {w w1 : World} {B b n m1 m2 : Nat} {m : Md}
theorem MdIs.move (h : MdIs w B b n m m1 m2) (hb : ∀ g, g < w.heap.size → g = b ∨ g = m1 ∨ g = m2 → w1.heap[g]? = w.heap[g]?) : MdIs w1 B b n m m1 m2 := by
  obtain ⟨z1, hz1, h1⟩ := h.mf
  obtain ⟨z2, hz2, h2⟩ := h.ml
  exact ⟨(hb b (blk_lt h.blk) (.inl rfl)).trans h.blk, ⟨z1, hz1, h1.move (hb m1 h1.lt (.inr (.inl rfl)))⟩, ⟨z2, hz2, h2.move (hb m2 h2.lt (.inr (.inr rfl)))⟩, h.hb, h.h1, h.h2, h.m12⟩
theorem MdIs.up {n' : Nat} (h : MdIs w B b n m m1 m2) (hn : n ≤ n') : MdIs w B b n' m m1 m2 := by
  obtain ⟨z1, hz1, h1⟩ := h.mf
  obtain ⟨z2, hz2, h2⟩ := h.ml
  exact ⟨h.blk, ⟨z1, by omega, h1⟩, ⟨z2, by omega, h2⟩, h.hb, h.h1, h.h2, h.m12⟩
theorem MdIs.below (h : MdIs w B b n m m1 m2) (hb : Below w.heap.size w w1) : MdIs w1 B b n m m1 m2 := h.move fun g hg _ => hb.block g hg
theorem MdIs.alloc (h : MdIs w B b n m m1 m2) (o : Obj) : MdIs (w.alloc o) B b n m m1 m2 := h.below (below_alloc (Below.refl _ _) o)
theorem MdIs.drew (h : MdIs w B b n m m1 m2) : MdIs w.drew B b n m m1 m2 := h.move fun g hg _ => rfl
theorem MdIs.drewN (h : MdIs w B b n m m1 m2) (q : Nat) : MdIs (w.drewN q) B b n m m1 m2 := h.move fun g hg _ => rfl
theorem MdIs.cell (h : MdIs w B b n m m1 m2) (i : Nat) : w.cell? ⟨b, i, none⟩ = (mdA m m1 m2)[i]? := blk_cell h.blk i
theorem MdIs.lt (h : MdIs w B b n m m1 m2) : b < w.heap.size := blk_lt h.blk
theorem MdIs.lt1 (h : MdIs w B b n m m1 m2) : m1 < w.heap.size := by obtain ⟨z1, _, h1⟩ := h.mf; exact h1.lt
theorem MdIs.lt2 (h : MdIs w B b n m m1 m2) : m2 < w.heap.size := by obtain ⟨z1, _, h1⟩ := h.ml; exact h1.lt
theorem MdIs.b1 (h : MdIs w B b n m m1 m2) : b ≠ m1 := by obtain ⟨z1, _, h1⟩ := h.mf; obtain ⟨_, _, q⟩ := h1.block; exact map_ne h.blk q
theorem MdIs.b2 (h : MdIs w B b n m m1 m2) : b ≠ m2 := by obtain ⟨z1, _, h1⟩ := h.ml; obtain ⟨_, _, q⟩ := h1.block; exact map_ne h.blk q
/-- The clock's cell is another one. -/
theorem MdIs.clock (h : MdIs w B b n m m1 m2) (t : Int) : MdIs (w.setCell ⟨b, 0, none⟩ (.int .i64 t)) B b n { m with clk := t } m1 m2 := by
  obtain ⟨z1, hz1, h1⟩ := h.mf
  obtain ⟨z2, hz2, h2⟩ := h.ml
  exact ⟨blk_set h.blk 0 _, ⟨z1, hz1, h1.move (Below.heap_setCell _ _ _ _ h.b1.symm)⟩, ⟨z2, hz2, h2.move (Below.heap_setCell _ _ _ _ h.b2.symm)⟩, h.hb, h.h1, h.h2, h.m12⟩
theorem MdIs.look (h : MdIs w B b n m m1 m2) {x : Ha} {kl : Lit} (hk : keyOf Try.prog 34 (haV x) = some kl) (W : World) (hb : W.heap[m1]? = w.heap[m1]?) :
    (Instr.lookup 123 (.map (some m1)) (haV x) false).run Try.prog W = .ok (.agg #[.int .i64 (m.st x), .int .i64 (m.dl x)]) W := by
  obtain ⟨z1, hz1, h1⟩ := h.mf
  have := (h1.move hb).look lawH Try.underlying123 (zeroFa W) (x := x) hk
  rw [this]
  unfold fV Md.st Md.dl
  cases m.fat x <;> rfl
theorem MdIs.lookL (h : MdIs w B b n m m1 m2) {x : Int} (hx : (Lit.int .i64 x).wf = true) (W : World) (hb : W.heap[m2]? = w.heap[m2]?) :
    (Instr.lookup 95 (.map (some m2)) (.int .i64 x) true).run Try.prog W = .ok (.tuple #[.int .i64 ((m.lst x).getD 0), .bool (m.lst x).isSome]) W := by
  obtain ⟨z1, hz1, h1⟩ := h.ml
  have := (h1.move hb).look_ok lawI Try.underlying95 (zeroI W) (x := x) (keyOf_int_mk Try.underlying3 hx)
  rw [this]
  unfold iV
  cases m.lst x <;> rfl
theorem fV_upd (f : Ha → Option (Int × Int)) (h : Ha) (v : Int × Int) : (fun l => if l = h then some (faV v) else fV f l) = fV (updF f h v) := by
  funext l
  unfold fV updF
  by_cases e : l = h <;> simp [e]
theorem iV_upd (f : Int → Option Int) (h : Int) (v : Int) : (fun l => if l = h then some (.int .i64 v) else iV f l) = iV (updL f h v) := by
  funext l
  unfold iV updL
  by_cases e : l = h <;> simp [e]
/-- A handle's fate is stored. -/
theorem MdIs.putF (h : MdIs w B b n m m1 m2) {f' : Ha → Option (Int × Int)} {z' : Nat} (hm : MapIs haV Try.prog 34 w1 m1 z' (fV f')) (hz : z' ≤ n + 1) (hg : w.grownBy w1 (some m1)) : MdIs w1 B b (n + 1) { m with fat := f' } m1 m2 := by
  obtain ⟨z2, hz2, h2⟩ := h.ml
  exact ⟨blk_grown h.blk hg (fun q => h.b1 (Option.some.inj q)), ⟨z', hz, hm⟩, ⟨z2, by omega, h2.move (hg.block m2 h2.lt (fun q => h.m12 (Option.some.inj q).symm))⟩, h.hb, h.h1, h.h2, h.m12⟩
theorem MdIs.putL (h : MdIs w B b n m m1 m2) {f' : Int → Option Int} {z' : Nat} (hm : MapIs (Value.int .i64) Try.prog 3 w1 m2 z' (iV f')) (hz : z' ≤ n + 1) (hg : w.grownBy w1 (some m2)) : MdIs w1 B b (n + 1) { m with lst := f' } m1 m2 := by
  obtain ⟨z1, hz1, h1⟩ := h.mf
  exact ⟨blk_grown h.blk hg (fun q => h.b2 (Option.some.inj q)), ⟨z1, by omega, h1.move (hg.block m1 h1.lt (fun q => h.m12 (Option.some.inj q)))⟩, ⟨z', hz, hm⟩, h.hb, h.h1, h.h2, h.m12⟩
end
/-- The blocks of a model: all that its functions may turn. -/
def mdS (b m1 m2 : Nat) : Nat → Prop := fun g => g = b ∨ g = m1 ∨ g = m2
abbrev wkA (iv : Ev) (beg : Int) (pp : Option Addr) : Array Value := #[.int .i64 iv.k, .int .i64 iv.wk, .int .i64 iv.op, .int .i64 iv.hn, .int .i64 iv.hg, .int .i64 iv.nn, .int .i64 iv.ng, .int .i64 iv.t, .int .i64 iv.a, .int .i64 iv.u, .bool iv.y, .int .i64 iv.er, .int .i64 beg, .pointer pp]
/-- A worker's work in memory. -/
def WkIs (w : World) (B g : Nat) (k : Wk) : Prop :=
  B ≤ g ∧ ∃ iv pp, w.heap[g]? = some (.cells (wkA iv k.beg pp) 119 (0, 0)) ∧ iv.op = k.op ∧ iv.hn = k.hn ∧ iv.hg = k.hg ∧ iv.t = k.t ∧
    ((pp = none ∧ k.pt = none) ∨ ∃ q ev, pp = some ⟨q, 0, none⟩ ∧ B ≤ q ∧ w.heap[q]? = some (.cells (evA ev) 54 (0, 0)) ∧ k.pt = some (ptOf ev))
theorem WkIs.keep {w w1 : World} {B g : Nat} {k : Wk} (h : WkIs w B g k) (hb : ∀ (q : Nat) (cs : Array Value) (t : TypeId), w.heap[q]? = some (.cells cs t (0, 0)) → (q = g ∨ t = 54) → w1.heap[q]? = w.heap[q]?) : WkIs w1 B g k := by
  obtain ⟨h0, iv, pp, h1, h2, h3, h4, h5, h6⟩ := h
  refine ⟨h0, iv, pp, (hb _ _ _ h1 (.inl rfl)).trans h1, h2, h3, h4, h5, ?_⟩
  rcases h6 with h6 | ⟨q, ev, a1, a2, a3, a4⟩
  · exact .inl h6
  · exact .inr ⟨q, ev, a1, a2, (hb _ _ _ a3 (.inr rfl)).trans a3, a4⟩
abbrev beA (nw : Int) (mb m3 : Nat) : Array Value := #[.pointer (some ⟨mb, 0, none⟩), .int .i64 nw, .map (some m3)]
/-- A bench in memory (pf: of each worker the block of its work). -/
structure BeIs (w : World) (B b n : Nat) (s : Be) (mb m1 m2 m3 : Nat) (pf : Int → Option Nat) : Prop where
  blk : w.heap[b]? = some (.cells (beA s.nw mb m3) 61 (0, 0))
  md : MdIs w B mb n s.m m1 m2
  mw : ∃ ks : List Int, ks.Nodup ∧ ks.length ≤ n ∧ (∀ x, x ∈ ks ↔ (pf x).isSome = true) ∧ MapIs (Value.int .i64) Try.prog 3 w m3 ks.length (pV pf)
  wk : ∀ x, (pf x = none ∧ s.wks x = none) ∨ ∃ g k, pf x = some g ∧ s.wks x = some k ∧ WkIs w B g k
  inj : ∀ x y g, pf x = some g → pf y = some g → x = y
  hb : B ≤ b
  h3 : B ≤ m3
  m31 : m3 ≠ m1
  m32 : m3 ≠ m2
theorem WkIs.ty {w : World} {B g : Nat} {k : Wk} (h : WkIs w B g k) : ∃ cs, w.heap[g]? = some (.cells cs 119 (0, 0)) := by obtain ⟨_, iv, pp, hg, _⟩ := h; exact ⟨_, hg⟩
section
variable {w w1 w2 : World} {B b n mb m1 m2 m3 : Nat} {s : Be} {pf : Int → Option Nat}
theorem BeIs.lt (h : BeIs w B b n s mb m1 m2 m3 pf) : b < w.heap.size := blk_lt h.blk
theorem BeIs.cell (h : BeIs w B b n s mb m1 m2 m3 pf) (i : Nat) : w.cell? ⟨b, i, none⟩ = (beA s.nw mb m3)[i]? := blk_cell h.blk i
theorem BeIs.map3 (h : BeIs w B b n s mb m1 m2 m3 pf) : ∃ es cl, w.heap[m3]? = some (.map es cl) := by obtain ⟨_, _, _, _, h1⟩ := h.mw; exact h1.block
/-- The blocks that hold cells of other types than a model's stay, where a model turns. -/
theorem BeIs.model {n' : Nat} {m' : Md} (h : BeIs w B b n s mb m1 m2 m3 pf) (hm : MdIs w1 B mb n' m' m1 m2) (hn : n ≤ n') (hf : Fr w w1 (mdS mb m1 m2)) : BeIs w1 B b n' { s with m := m' } mb m1 m2 m3 pf := by
  obtain ⟨ks, c1, c2, c3, c4⟩ := h.mw
  obtain ⟨z1, _, q1⟩ := h.md.mf
  obtain ⟨z2, _, q2⟩ := h.md.ml
  obtain ⟨_, _, q1⟩ := q1.block
  obtain ⟨_, _, q2⟩ := q2.block
  obtain ⟨_, _, q3⟩ := c4.block
  have key : ∀ (g : Nat) (cs : Array Value) (t : TypeId), w.heap[g]? = some (.cells cs t (0, 0)) → t ≠ 125 → w1.heap[g]? = w.heap[g]? := fun g cs t hg ht => hf.block g (blk_lt hg) (by
    rintro (e | e | e)
    · exact types_ne hg h.md.blk ht e
    · exact map_ne hg q1 e
    · exact map_ne hg q2 e)
  refine ⟨(key _ _ _ h.blk (by decide)).trans h.blk, hm, ⟨ks, c1, by omega, c3, c4.move (hf.block m3 c4.lt (by
    rintro (e | e | e)
    · exact map_ne h.md.blk q3 e.symm
    · exact h.m31 e
    · exact h.m32 e))⟩, fun x => ?_, h.inj, h.hb, h.h3, h.m31, h.m32⟩
  rcases h.wk x with c | ⟨g, k, p1, p2, p3⟩
  · exact .inl c
  · refine .inr ⟨g, k, p1, p2, p3.keep fun q cs t hq ht => key q cs t hq ?_⟩
    rcases ht with rfl | rfl
    · obtain ⟨_, hg⟩ := p3.ty
      rw [hg] at hq
      injection hq with hq
      injection hq with _ hq
      rw [← hq]
      decide
    · decide
theorem BeIs.move (h : BeIs w B b n s mb m1 m2 m3 pf) (hb : ∀ g, g < w.heap.size → w1.heap[g]? = w.heap[g]?) : BeIs w1 B b n s mb m1 m2 m3 pf := by
  obtain ⟨ks, c1, c2, c3, c4⟩ := h.mw
  refine ⟨(hb _ h.lt).trans h.blk, h.md.move (fun g hg _ => hb g hg), ⟨ks, c1, c2, c3, c4.move (hb _ c4.lt)⟩, fun x => ?_, h.inj, h.hb, h.h3, h.m31, h.m32⟩
  rcases h.wk x with c | ⟨g, k, p1, p2, p3⟩
  · exact .inl c
  · exact .inr ⟨g, k, p1, p2, p3.keep fun q cs t hq _ => hb q (blk_lt hq)⟩
theorem BeIs.below (h : BeIs w B b n s mb m1 m2 m3 pf) (hb : Below w.heap.size w w1) : BeIs w1 B b n s mb m1 m2 m3 pf := h.move fun g hg => hb.block g hg
theorem BeIs.alloc (h : BeIs w B b n s mb m1 m2 m3 pf) (o : Obj) : BeIs (w.alloc o) B b n s mb m1 m2 m3 pf := h.below (below_alloc (Below.refl _ _) o)
theorem BeIs.drew (h : BeIs w B b n s mb m1 m2 m3 pf) : BeIs w.drew B b n s mb m1 m2 m3 pf := h.move fun g hg => rfl
theorem BeIs.drewN (h : BeIs w B b n s mb m1 m2 m3 pf) (q : Nat) : BeIs (w.drewN q) B b n s mb m1 m2 m3 pf := h.move fun g hg => rfl
theorem BeIs.up {n' : Nat} (h : BeIs w B b n s mb m1 m2 m3 pf) (hn : n ≤ n') : BeIs w B b n' s mb m1 m2 m3 pf := by
  obtain ⟨ks, c1, c2, c3⟩ := h.mw
  exact ⟨h.blk, h.md.up hn, ⟨ks, c1, by omega, c3⟩, h.wk, h.inj, h.hb, h.h3, h.m31, h.m32⟩
/-- A look-up of a worker's work. -/
theorem BeIs.look (h : BeIs w B b n s mb m1 m2 m3 pf) {x : Int} (hx : (Lit.int .i64 x).wf = true) (W : World) (hW : W.heap[m3]? = w.heap[m3]?) :
    (Instr.lookup 59 (.map (some m3)) (.int .i64 x) true).run Try.prog W = .ok (.tuple #[(pV pf x).getD (.pointer none), .bool (pV pf x).isSome]) W := by
  obtain ⟨ks, c1, c2, c3, c4⟩ := h.mw
  exact (c4.move hW).look_ok lawI Try.underlying59 (z := .pointer none) (by kernel_rfl) (x := x) (keyOf_int_mk Try.underlying3 hx)
theorem pV_none {x : Int} (h : pf x = none) : pV pf x = none := by unfold pV; rw [h]; rfl
theorem pV_some {x : Int} {g : Nat} (h : pf x = some g) : pV pf x = some (.pointer (some ⟨g, 0, none⟩)) := by unfold pV; rw [h]; rfl
theorem BeIs.idle (h : BeIs w B b n s mb m1 m2 m3 pf) {x : Int} (hx : s.wks x = none) : pf x = none := by
  rcases h.wk x with c | ⟨g, k, p1, p2, _⟩
  · exact c.1
  · rw [hx] at p2; cases p2
theorem BeIs.busy (h : BeIs w B b n s mb m1 m2 m3 pf) {x : Int} {k : Wk} (hx : s.wks x = some k) : ∃ g, pf x = some g ∧ WkIs w B g k := by
  rcases h.wk x with c | ⟨g, k', p1, p2, p3⟩
  · rw [hx] at c; cases c.2
  · rw [hx] at p2; obtain rfl := Option.some.inj p2; exact ⟨g, p1, p3⟩
def updP (f : Int → Option Nat) (x : Int) (v : Option Nat) : Int → Option Nat := fun l => if l = x then v else f l
theorem pV_upd (f : Int → Option Nat) (x : Int) (g : Nat) : (fun l => if l = x then some (.pointer (some ⟨g, 0, none⟩)) else pV f l) = pV (updP f x (some g)) := by
  funext l
  unfold pV updP
  by_cases e : l = x <;> simp [e]
theorem pV_del (f : Int → Option Nat) (x : Int) : (fun l => if l = x then none else pV f l) = pV (updP f x none) := by
  funext l
  unfold pV updP
  by_cases e : l = x <;> simp [e]
theorem BeIs.cells_ne3 (h : BeIs w B b n s mb m1 m2 m3 pf) {g : Nat} {cs : Array Value} {t : TypeId} (hg : w.heap[g]? = some (.cells cs t (0, 0))) : g ≠ m3 := by
  obtain ⟨_, _, q⟩ := h.map3
  exact map_ne hg q
/-- A worker begins: its work lies in a new block, and the map tells it. -/
theorem BeIs.invoke {g : Nat} {iv : Ev} {beg : Int} {x : Int} (h : BeIs w B b n s mb m1 m2 m3 pf) (hb : Below w.heap.size w w1) (hg : w1.heap[g]? = some (.cells (wkA iv beg none) 119 (0, 0))) (hge : w.heap.size ≤ g) (hB : B ≤ w.heap.size) (hx : s.wks x = none) :
    ∃ z, z ≤ n ∧ MapIs (Value.int .i64) Try.prog 3 w1 m3 z (pV pf) ∧ ∀ w2, MapIs (Value.int .i64) Try.prog 3 w2 m3 (if (pV pf x).isSome then z else z + 1) (fun l => if l = x then some (.pointer (some ⟨g, 0, none⟩)) else pV pf l) → w1.grownBy w2 (some m3) →
      BeIs w2 B b (n + 1) { s with wks := updW s.wks x (some ⟨iv.op, iv.hn, iv.hg, iv.t, beg, none⟩) } mb m1 m2 m3 (updP pf x (some g)) := by
  have h' := h.below hb
  have hpx := h.idle hx
  obtain ⟨ks, c1, c2, c3, c4⟩ := h'.mw
  refine ⟨ks.length, c2, c4, fun w2 hm hgr => ?_⟩
  rw [pV_none hpx, pV_upd] at hm
  have hno : x ∉ ks := fun q => by have := (c3 x).1 q; rw [hpx] at this; cases this
  have key : ∀ (q : Nat) (cs : Array Value) (t : TypeId), w1.heap[q]? = some (.cells cs t (0, 0)) → w2.heap[q]? = w1.heap[q]? := fun q cs t hq => hgr.block q (blk_lt hq) (fun e => h'.cells_ne3 hq (Option.some.inj e))
  have old : ∀ y g', pf y = some g' → g' < w.heap.size := fun y g' hy => by
    rcases h.wk y with c | ⟨g2, k, p1, p2, p3⟩
    · rw [c.1] at hy; cases hy
    · rw [hy] at p1; obtain rfl := Option.some.inj p1; obtain ⟨_, hg2⟩ := p3.ty; exact blk_lt hg2
  refine ⟨(key _ _ _ h'.blk).trans h'.blk, ?_, ⟨ks ++ [x], ?_, by simp; omega, fun y => ?_, by simpa using hm⟩, fun y => ?_, fun y y' g' hy hy' => ?_, h.hb, h.h3, h.m31, h.m32⟩
  · refine (h'.md.up (Nat.le_succ n)).move fun q hq e => hgr.block q hq (fun e' => ?_)
    obtain rfl := Option.some.inj e'
    rcases e with e | e | e
    · exact h'.cells_ne3 h'.md.blk e.symm
    · exact h.m31 e
    · exact h.m32 e
  · rw [List.nodup_append]
    exact ⟨c1, by simp, fun a ha b' hb' => by obtain rfl := List.mem_singleton.1 hb'; exact fun e => hno (e ▸ ha)⟩
  · unfold updP
    rw [List.mem_append, List.mem_singleton]
    by_cases e : y = x
    · simp [e]
    · rw [if_neg e, ← c3 y]; simp [e]
  · show (updP pf x (some g) y = none ∧ updW s.wks x _ y = none) ∨ ∃ g' k, updP pf x (some g) y = some g' ∧ updW s.wks x _ y = some k ∧ WkIs w2 B g' k
    unfold updP updW
    by_cases e : y = x
    · rw [if_pos e, if_pos e]
      exact .inr ⟨g, _, rfl, rfl, by omega, iv, none, (key _ _ _ hg).trans hg, rfl, rfl, rfl, rfl, .inl ⟨rfl, rfl⟩⟩
    · rw [if_neg e, if_neg e]
      rcases h'.wk y with c | ⟨g2, k, p1, p2, p3⟩
      · exact .inl c
      · exact .inr ⟨g2, k, p1, p2, p3.keep fun q cs t hq _ => key q cs t hq⟩
  · unfold updP at hy hy'
    by_cases e : y = x
    · rw [if_pos e] at hy
      by_cases e' : y' = x
      · rw [e, e']
      · rw [if_neg e'] at hy'
        have := old _ _ hy'
        have := Option.some.inj hy
        omega
    · rw [if_neg e] at hy
      by_cases e' : y' = x
      · rw [if_pos e'] at hy'
        have := old _ _ hy
        have := Option.some.inj hy'
        omega
      · rw [if_neg e'] at hy'
        exact h.inj y y' g' hy hy'
/-- A worker is through: the map loses it. -/
theorem BeIs.drop {x : Int} {k : Wk} (h : BeIs w B b n s mb m1 m2 m3 pf) (hx : s.wks x = some k) :
    ∃ z, MapIs (Value.int .i64) Try.prog 3 w m3 z (pV pf) ∧ ∀ w2, MapIs (Value.int .i64) Try.prog 3 w2 m3 (if (pV pf x).isSome then z - 1 else z) (fun l => if l = x then none else pV pf l) → w.grownBy w2 (some m3) →
      BeIs w2 B b n { s with wks := updW s.wks x none } mb m1 m2 m3 (updP pf x none) := by
  obtain ⟨g, hpx, hwk⟩ := h.busy hx
  obtain ⟨ks, c1, c2, c3, c4⟩ := h.mw
  refine ⟨ks.length, c4, fun w2 hm hgr => ?_⟩
  rw [pV_some hpx, pV_del] at hm
  have hin : x ∈ ks := (c3 x).2 (by rw [hpx]; rfl)
  have key : ∀ (q : Nat) (cs : Array Value) (t : TypeId), w.heap[q]? = some (.cells cs t (0, 0)) → w2.heap[q]? = w.heap[q]? := fun q cs t hq => hgr.block q (blk_lt hq) (fun e => h.cells_ne3 hq (Option.some.inj e))
  have hlen : (ks.erase x).length = ks.length - 1 := List.length_erase_of_mem hin
  refine ⟨(key _ _ _ h.blk).trans h.blk, ?_, ⟨ks.erase x, c1.erase x, by rw [hlen]; omega, fun y => ?_, by rw [hlen]; exact hm⟩, fun y => ?_, fun y y' g' hy hy' => ?_, h.hb, h.h3, h.m31, h.m32⟩
  · refine h.md.move fun q hq e => hgr.block q hq (fun e' => ?_)
    obtain rfl := Option.some.inj e'
    rcases e with e | e | e
    · exact h.cells_ne3 h.md.blk e.symm
    · exact h.m31 e
    · exact h.m32 e
  · unfold updP
    rw [c1.mem_erase_iff]
    by_cases e : y = x
    · simp [e]
    · rw [if_neg e, ← c3 y]; simp [e]
  · show (updP pf x none y = none ∧ updW s.wks x none y = none) ∨ ∃ g' k, updP pf x none y = some g' ∧ updW s.wks x none y = some k ∧ WkIs w2 B g' k
    unfold updP updW
    by_cases e : y = x
    · rw [if_pos e, if_pos e]; exact .inl ⟨rfl, rfl⟩
    · rw [if_neg e, if_neg e]
      rcases h.wk y with c | ⟨g2, k, p1, p2, p3⟩
      · exact .inl c
      · exact .inr ⟨g2, k, p1, p2, p3.keep fun q cs t hq _ => key q cs t hq⟩
  · unfold updP at hy hy'
    by_cases e : y = x
    · rw [if_pos e] at hy; cases hy
    · rw [if_neg e] at hy
      by_cases e' : y' = x
      · rw [if_pos e'] at hy'; cases hy'
      · rw [if_neg e'] at hy'
        exact h.inj y y' g' hy hy'
/-- An operation has taken effect: its work's cell tells the event. -/
theorem BeIs.pointed {x : Int} {k : Wk} {g q : Nat} {ev : Ev} (h : BeIs w B b n s mb m1 m2 m3 pf) (hx : s.wks x = some k) (hp : pf x = some g) (hq : w.heap[q]? = some (.cells (evA ev) 54 (0, 0))) (hB : B ≤ q) :
    BeIs (w.setCell ⟨g, 13, none⟩ (.pointer (some ⟨q, 0, none⟩))) B b n { s with wks := updW s.wks x (some { k with pt := some (ptOf ev) }) } mb m1 m2 m3 pf := by
  obtain ⟨g0, hp0, hwk⟩ := h.busy hx
  obtain rfl : g0 = g := Option.some.inj (hp0.symm.trans hp)
  obtain ⟨_, hgt⟩ := hwk.ty
  have far : ∀ (q' : Nat) (cs : Array Value) (t : TypeId), w.heap[q']? = some (.cells cs t (0, 0)) → t ≠ 119 → (w.setCell ⟨g0, 13, none⟩ (.pointer (some ⟨q, 0, none⟩))).heap[q']? = w.heap[q']? := fun q' cs t hq' ht => Below.heap_setCell _ _ _ _ (fun e => types_ne hq' hgt ht e)
  have farm : ∀ q' : Nat, (∃ (es : Array MapEntry) (cl : Nat), w.heap[q']? = some (.map es cl)) → (w.setCell ⟨g0, 13, none⟩ (.pointer (some ⟨q, 0, none⟩))).heap[q']? = w.heap[q']? := fun q' ⟨_, _, hq'⟩ => Below.heap_setCell _ _ _ _ (fun e => map_ne hgt hq' e.symm)
  obtain ⟨ks, c1, c2, c3, c4⟩ := h.mw
  obtain ⟨z1, _, q1⟩ := h.md.mf
  obtain ⟨z2, _, q2⟩ := h.md.ml
  refine ⟨(far _ _ _ h.blk (by decide)).trans h.blk, h.md.move fun q' hq' e => ?_, ⟨ks, c1, c2, c3, c4.move (farm _ h.map3)⟩, fun y => ?_, h.inj, h.hb, h.h3, h.m31, h.m32⟩
  · rcases e with rfl | rfl | rfl
    · exact far _ _ _ h.md.blk (by decide)
    · exact farm _ q1.block
    · exact farm _ q2.block
  · show (pf y = none ∧ updW s.wks x _ y = none) ∨ ∃ g' k', pf y = some g' ∧ updW s.wks x _ y = some k' ∧ WkIs _ B g' k'
    unfold updW
    by_cases e : y = x
    · rw [if_pos e, e]
      obtain ⟨w0, iv, pp, w1', w2', w3', w4', w5', _⟩ := hwk
      refine .inr ⟨g0, _, hp, rfl, w0, iv, some ⟨q, 0, none⟩, ?_, w2', w3', w4', w5', .inr ⟨q, ev, rfl, hB, (far _ _ _ hq (by decide)).trans hq, rfl⟩⟩
      have := blk_set w1' 13 (.pointer (some ⟨q, 0, none⟩))
      exact this
    · rw [if_neg e]
      rcases h.wk y with c | ⟨g2, k2, p1, p2, p3⟩
      · exact .inl c
      · refine .inr ⟨g2, k2, p1, p2, p3.keep fun q' cs t hq' ht => ?_⟩
        rcases ht with rfl | rfl
        · exact Below.heap_setCell _ _ _ _ (fun e' => e (h.inj y x g0 (by rw [← show q' = g0 from e']; exact p1) hp))
        · exact far _ _ _ hq' (by decide)
end
end Go.Proofs.Ythniclbmpeklmaa.Ju
end
section
namespace Go.Proofs.Ythniclbmpeklmaa.Ju
open Go.RowKit Go.Maps Go.Proofs.YthniclbmpeklmaaW.PrintWords Go.Proofs.YthniclbmpeklmaaW.PrintLast Go.Proofs.YthniclbmpeklmaaW.PrintMore Go.Proofs.Ythniclbmpeklmaa.Mp Go.Proofs.Ythniclbmpeklmaa.Au
set_option linter.unusedVariables false
set_option linter.unusedSimpArgs false
abbrev pA (b : Nat) : Value := .pointer (some ⟨b, 0, none⟩)
/-- A region that draws: all but its last operations only read; the world behind the draw under a name of its own. -/
theorem still_tail_at' {P : Program} {id : Nat} {Q : Exit → Act → World → Prop} {a : Act} {w : World} {l : List Oper} (n : Nat) (hm : P.follows .mixedOrders = true) (hB : Region.lexTailB .any l.toArray n = true)
    (h : ∀ w2, w2 = w.drew → wpStill P l.toArray w2 (fun a' => wpList P l.toArray Q (l.drop n) a' w2) (l.take n) a) : (Code.region id l.toArray true).wp P Q a w :=
  wp_region_still_tail n hm hB (h _ rfl)
theorem fate_field (a d : Int) (W : World) : (Instr.field 122 (.agg #[.int .i64 a, .int .i64 d]) 0).run Try.prog W = .ok (.int .i64 a) W := by first | kernel_rfl | rfl | (have hu2 := Try.underlying122; simp [Instr.field, go_sem, hu2])
set_option maxHeartbeats 4000000 in
set_option maxRecDepth 100000 in
theorem model_new (w : World) : Calls Try.prog 40 #[] w fun r w' => r = .returned (pA (w.heap.size + 1 + 1)) ∧ MdIs w' w.heap.size (w.heap.size + 1 + 1) 0 md0 w.heap.size (w.heap.size + 1) ∧ Below w.heap.size w w' := by
  have hmm := @run_makeMap Try.prog
  have hu0 := Try.underlying125
  go_enter Try.func40, Try.ntmps40
  go_wp2
  go_ret
  have q1 := (MapIs.made (c := haV) w Try.prog 34).move (w' := ((w.alloc (.map #[] 0)).alloc (.map #[] 0)).alloc (.cells (mdA md0 w.heap.size (w.heap.size + 1)) 125)) (by rw [Below.heap_alloc _ _ _ (by simp; omega), Below.heap_alloc _ _ _ (by simp)])
  have q2 := (MapIs.made (c := Value.int .i64) (w.alloc (.map #[] 0)) Try.prog 3).move (w' := ((w.alloc (.map #[] 0)).alloc (.map #[] 0)).alloc (.cells (mdA md0 w.heap.size (w.heap.size + 1)) 125)) (by rw [Below.heap_alloc _ _ _ (by simp)])
  rw [show (w.alloc (.map #[] 0)).heap.size = w.heap.size + 1 by simp] at q2
  refine ⟨rfl, ⟨by have q := blk_new ((w.alloc (.map #[] 0)).alloc (.map #[] 0)) (.cells (mdA md0 w.heap.size (w.heap.size + 1)) 125); rw [show ((w.alloc (.map #[] 0)).alloc (.map #[] 0)).heap.size = w.heap.size + 1 + 1 by simp] at q; exact q, ⟨0, Nat.le_refl _, q1⟩, ⟨0, Nat.le_refl _, q2⟩, by omega, by omega, by omega, by omega⟩, below_alloc (below_alloc (below_alloc (Below.refl _ _) _) _) _⟩
set_option maxHeartbeats 4000000 in
set_option maxRecDepth 100000 in
theorem model_clock {w : World} {B b n m1 m2 : Nat} {m : Md} (h : MdIs w B b n m m1 m2) : Calls Try.prog 41 #[pA b] w fun r w' => r = .returned (.int .i64 m.clk) ∧ w = w' := by
  have hu0 := Try.underlying125
  have hc := fun i => h.cell i
  have hlt := h.lt
  clear h
  go_enter Try.func41, Try.ntmps41
  go_wp2
  go_ret
  exact ⟨rfl, rfl⟩
set_option maxHeartbeats 4000000 in
set_option maxRecDepth 100000 in
theorem model_status {w : World} {B b n m1 m2 : Nat} {m : Md} (x y : Int) (hx : (Lit.int .i64 x).wf = true) (hy : (Lit.int .i64 y).wf = true) (h : MdIs w B b n m m1 m2) : Calls Try.prog 33 #[pA b, .agg #[.int .i64 x, .int .i64 y]] w fun r w' => r = .returned (.int .i64 (m.st (x, y))) ∧ Below w.heap.size w w' := by
  have hu0 := Try.underlying125
  have hu1 := Try.underlying34
  have hu3 := Try.underlying122
  obtain ⟨kl, hk⟩ := keyH x y hx hy
  have hl := fun q => h.look hk ((w.alloc (.cells #[.int .i64 x, .int .i64 y] 34)).drewN q) (Below.heap_alloc w _ m1 h.lt1)
  obtain ⟨s, hs⟩ : ∃ s, m.st (x, y) = s := ⟨_, rfl⟩
  obtain ⟨d, hd⟩ : ∃ d, m.dl (x, y) = d := ⟨_, rfl⟩
  rw [hs, hd] at hl
  rw [hs]
  have hff := fun W => fate_field s d W
  have hc := fun i => h.cell i
  have hlt := h.lt
  clear h hk hs hd hx hy
  go_enter Try.func33, Try.ntmps33
  go_wp2
  go_quiet (fail)
  go_wp2
  go_ret
  exact ⟨rfl, by repeat (first | exact Below.refl _ _ | apply below_alloc | apply pw_below_drewN)⟩
set_option maxHeartbeats 4000000 in
set_option maxRecDepth 100000 in
theorem model_nothing (w : World) : Calls Try.prog 100 #[] w fun r w' => r = .returned (.tuple #[]) ∧ w' = w := by
  go_enter Try.func100, Try.ntmps100
  go_wp2
  go_end0
  exact ⟨rfl, rfl⟩
set_option maxHeartbeats 4000000 in
set_option maxRecDepth 100000 in
theorem unless_no (fn : Fn) (first cap : Array Value) (w : World) : Calls Try.prog 73 #[.bool false, .func fn first cap] w fun r w' => r = .returned (.int .i64 6) ∧ w' = w := by
  go_enter Try.func73, Try.ntmps73
  go_wp2
  go_ret
  exact ⟨rfl, rfl⟩
set_option maxHeartbeats 4000000 in
set_option maxRecDepth 100000 in
theorem unless_tick (cap : Array Value) (w : World) (Q : World → Prop) (h : Calls Try.prog 74 cap w fun r w' => r = .returned (.tuple #[]) ∧ Q w') : Calls Try.prog 73 #[.bool true, .func (.func 74) #[] cap] w fun r w' => r = .returned (.int .i64 0) ∧ Q w' := by
  have H := Aside0.mk (show Calls Try.prog 74 cap w fun r w' => r = .returned (.tuple #[]) ∧ Q w' from h)
  clear h
  go_enter Try.func73, Try.ntmps73
  go_wp2_with (go_at_call 74; (with_reducible refine H.out.mono ?_); rintro r w2 ⟨rfl, hq⟩; have HQ := Aside0.mk hq; clear hq)
  go_ret
  exact ⟨rfl, HQ.out⟩
set_option maxHeartbeats 4000000 in
set_option maxRecDepth 100000 in
theorem unless_end (cap : Array Value) (w : World) (Q : World → Prop) (h : Calls Try.prog 99 cap w fun r w' => r = .returned (.tuple #[]) ∧ Q w') : Calls Try.prog 73 #[.bool true, .func (.func 99) #[] cap] w fun r w' => r = .returned (.int .i64 0) ∧ Q w' := by
  have H := Aside0.mk (show Calls Try.prog 99 cap w fun r w' => r = .returned (.tuple #[]) ∧ Q w' from h)
  clear h
  go_enter Try.func73, Try.ntmps73
  go_wp2_with (go_at_call 99; (with_reducible refine H.out.mono ?_); rintro r w2 ⟨rfl, hq⟩; have HQ := Aside0.mk hq; clear hq)
  go_ret
  exact ⟨rfl, HQ.out⟩
set_option maxHeartbeats 4000000 in
set_option maxRecDepth 100000 in
theorem unless_nothing (cap : Array Value) (w : World) (Q : World → Prop) (h : Calls Try.prog 100 cap w fun r w' => r = .returned (.tuple #[]) ∧ Q w') : Calls Try.prog 73 #[.bool true, .func (.func 100) #[] cap] w fun r w' => r = .returned (.int .i64 0) ∧ Q w' := by
  have H := Aside0.mk (show Calls Try.prog 100 cap w fun r w' => r = .returned (.tuple #[]) ∧ Q w' from h)
  clear h
  go_enter Try.func73, Try.ntmps73
  go_wp2_with (go_at_call 100; (with_reducible refine H.out.mono ?_); rintro r w2 ⟨rfl, hq⟩; have HQ := Aside0.mk hq; clear hq)
  go_ret
  exact ⟨rfl, HQ.out⟩
set_option maxHeartbeats 4000000 in
set_option maxRecDepth 100000 in
theorem unless_start (cap : Array Value) (w : World) (Q : World → Prop) (h : Calls Try.prog 101 cap w fun r w' => r = .returned (.tuple #[]) ∧ Q w') : Calls Try.prog 73 #[.bool true, .func (.func 101) #[] cap] w fun r w' => r = .returned (.int .i64 0) ∧ Q w' := by
  have H := Aside0.mk (show Calls Try.prog 101 cap w fun r w' => r = .returned (.tuple #[]) ∧ Q w' from h)
  clear h
  go_enter Try.func73, Try.ntmps73
  go_wp2_with (go_at_call 101; (with_reducible refine H.out.mono ?_); rintro r w2 ⟨rfl, hq⟩; have HQ := Aside0.mk hq; clear hq)
  go_ret
  exact ⟨rfl, HQ.out⟩
set_option maxHeartbeats 4000000 in
set_option maxRecDepth 100000 in
theorem unless_rearm (cap : Array Value) (w : World) (Q : World → Prop) (h : Calls Try.prog 103 cap w fun r w' => r = .returned (.tuple #[]) ∧ Q w') : Calls Try.prog 73 #[.bool true, .func (.func 103) #[] cap] w fun r w' => r = .returned (.int .i64 0) ∧ Q w' := by
  have H := Aside0.mk (show Calls Try.prog 103 cap w fun r w' => r = .returned (.tuple #[]) ∧ Q w' from h)
  clear h
  go_enter Try.func73, Try.ntmps73
  go_wp2_with (go_at_call 103; (with_reducible refine H.out.mono ?_); rintro r w2 ⟨rfl, hq⟩; have HQ := Aside0.mk hq; clear hq)
  go_ret
  exact ⟨rfl, HQ.out⟩
set_option maxHeartbeats 4000000 in
set_option maxRecDepth 100000 in
theorem tick_any {w : World} {B b n m1 m2 eb xb : Nat} {m : Md} (e : Ev) (h : MdIs w B b n m m1 m2) (he : w.heap[eb]? = some (.cells (evA e) 54 (0, 0))) (hx : w.heap[xb]? = some (.cells #[pA b] 58 (0, 0))) : Calls Try.prog 74 #[pA eb, pA xb] w fun r w' => r = .returned (.tuple #[]) ∧ MdIs w' B b n { m with clk := e.t } m1 m2 ∧ Fr w w' (mdS b m1 m2) := by
  have hu0 := Try.underlying125
  have hu2 := Try.underlying54
  have H := Aside0.mk h
  have hc := fun i => h.cell i
  have hf := fun i => blk_frozen h.blk i
  have hce := fun i => blk_cell he i
  have hcx := fun i => blk_cell hx i
  have hlt := h.lt
  have hle := blk_lt he
  have hlx := blk_lt hx
  clear h he hx
  go_enter Try.func74, Try.ntmps74
  go_wp2
  go_end0
  exact ⟨rfl, H.out.clock e.t, (Fr.refl _ _).set _ _ (.inr (.inl rfl))⟩
set_option maxHeartbeats 4000000 in
set_option maxRecDepth 100000 in
theorem end1_any {w : World} {B b n m1 m2 sb xb hb : Nat} {m : Md} (s x y : Int) (hn : n ≤ 1000000) (hx : (Lit.int .i64 x).wf = true) (hy : (Lit.int .i64 y).wf = true) (h : MdIs w B b n m m1 m2) (h1 : w.heap[sb]? = some (.cells #[.int .i64 s] 3 (0, 0))) (h2 : w.heap[xb]? = some (.cells #[pA b] 58 (0, 0))) (h3 : w.heap[hb]? = some (.cells #[.int .i64 x, .int .i64 y] 34 (0, 0))) :
    Calls Try.prog 99 #[pA sb, pA xb, pA hb] w fun r w' => r = .returned (.tuple #[]) ∧ MdIs w' B b (n + 1) (m.end_ (x, y) s) m1 m2 ∧ Fr w w' (mdS b m1 m2) := by
  have hu0 := Try.underlying125
  have hu1 := Try.underlying34
  have hu3 := Try.underlying122
  have H := Aside0.mk h
  have HK := Aside0.mk (keyH x y hx hy)
  have HN := Aside0.mk hn
  have hlt := h.lt
  have hl1 := blk_lt h1
  have hl2 := blk_lt h2
  have hl3 := blk_lt h3
  have hc := fun i => h.cell i
  have hc1 := fun i => blk_cell h1 i
  have hc2 := fun i => blk_cell h2 i
  have hc3 := fun i => blk_cell h3 i
  clear h h1 h2 h3 hx hy hn
  go_enter Try.func99, Try.ntmps99
  refine still_tail_at' 7 (by kernel_rfl) (by kernel_rfl) fun w2 hw2 => ?_
  have H2 := Aside0.mk (show MdIs w2 B b n m m1 m2 by rw [hw2]; exact H.out.drew)
  have HF2 := Aside0.mk (show Fr w w2 (mdS b m1 m2) by rw [hw2]; exact (Fr.refl _ _).drew)
  have hd := fun i => H2.out.cell i
  have hd1 : ∀ i, w2.cell? ⟨sb, i, none⟩ = #[Value.int .i64 s][i]? := by intro i; rw [hw2]; exact hc1 i
  have hd2 : ∀ i, w2.cell? ⟨xb, i, none⟩ = #[pA b][i]? := by intro i; rw [hw2]; exact hc2 i
  have hd3 : ∀ i, w2.cell? ⟨hb, i, none⟩ = #[Value.int .i64 x, Value.int .i64 y][i]? := by intro i; rw [hw2]; exact hc3 i
  have hz : w2.heap.size = w.heap.size := by rw [hw2]; rfl
  rw [← hz] at hlt hl1 hl2 hl3
  clear hw2 hc hc1 hc2 hc3 H hz
  simp only [List.take_succ_cons, List.take_zero, List.drop_succ_cons, List.drop_zero]
  repeat still_step
  refine wpStill_nil ?_
  obtain ⟨z1, hz1, hm1⟩ := H2.out.mf
  obtain ⟨kl, hkl⟩ := HK.out
  refine wpl_store ha_inj rfl _ _ _ 123 rfl hm1 lawH Try.underlying123 (by unfold maxLen; have := HN.out; omega) (y := (x, y)) hkl (val := faV (s, 0)) rfl rfl rfl ?_
  intro w4 hm4 hg4
  rw [fV_upd] at hm4
  have HM4 := Aside0.mk (H2.out.putF hm4 (by split <;> omega) hg4)
  have HF4 := Aside0.mk (HF2.out.trans ((Fr.of_grown hg4).mono (fun g q => .inr (.inl (Option.some.inj q)))))
  clear hm4 hg4 hm1 hz1 H2 HF2 hkl hd hd1 hd2 hd3
  go_wp2
  go_end0
  exact ⟨rfl, HM4.out, HF4.out⟩
set_option maxHeartbeats 4000000 in
set_option maxRecDepth 100000 in
theorem end_any (b : Nat) (x y s : Int) (w : World) : Calls Try.prog 75 #[pA b, .agg #[.int .i64 x, .int .i64 y], .int .i64 s] w fun r w' => r = .returned (.func (.func 99) #[] #[pA (w.heap.size + 1 + 1), pA w.heap.size, pA (w.heap.size + 1)]) ∧ ((w.alloc (.cells #[pA b] 58)).alloc (.cells #[.int .i64 x, .int .i64 y] 34)).alloc (.cells #[.int .i64 s] 3) = w' := by
  have hu1 := Try.underlying34
  have hmf : ∀ (fn : Fn) (first cap : Array Value) (w : World), (Instr.makeFunc fn first cap).run Try.prog w = .ok (.func fn first cap) w := fun _ _ _ _ => rfl
  go_enter Try.func75, Try.ntmps75
  go_wp2
  go_ret
  exact ⟨rfl, rfl⟩
set_option maxHeartbeats 4000000 in
set_option maxRecDepth 100000 in
theorem arm_any {w : World} {B b n m1 m2 : Nat} {m : Md} (x y d : Int) (hn : n ≤ 1000000) (hx : (Lit.int .i64 x).wf = true) (hy : (Lit.int .i64 y).wf = true) (h : MdIs w B b n m m1 m2) :
    Calls Try.prog 102 #[pA b, .agg #[.int .i64 x, .int .i64 y], .int .i64 d] w fun r w' => r = .returned (.tuple #[]) ∧ MdIs w' B b (n + 2) (m.arm (x, y) d) m1 m2 ∧ Fr w w' (mdS b m1 m2) := by
  have hu0 := Try.underlying125
  have hu1 := Try.underlying34
  have hu3 := Try.underlying122
  have H := Aside0.mk (h.alloc (.cells #[.int .i64 x, .int .i64 y] 34))
  have HF := Aside0.mk ((Fr.refl w (mdS b m1 m2)).alloc (.cells #[.int .i64 x, .int .i64 y] 34))
  have HO := Aside0.mk (blk_new w (.cells #[.int .i64 x, .int .i64 y] 34))
  have HK := Aside0.mk (keyH x y hx hy)
  have HX := Aside0.mk hx
  have HN := Aside0.mk hn
  clear h hx hy hn
  go_enter Try.func102, Try.ntmps102
  go_wp2
  refine still_tail_at' 7 (by kernel_rfl) (by kernel_rfl) fun w2 hw2 => ?_
  have H2 := Aside0.mk (show MdIs w2 B b n m m1 m2 by rw [hw2]; exact H.out.drew)
  have HF2 := Aside0.mk (show Fr w w2 (mdS b m1 m2) by rw [hw2]; exact HF.out.drew)
  have HO2 := Aside0.mk (show w2.heap[w.heap.size]? = some (.cells #[.int .i64 x, .int .i64 y] 34 (0, 0)) by rw [hw2]; exact HO.out)
  clear hw2 H HF HO
  have hd := fun i => H2.out.cell i
  have hd2 := fun i => blk_cell HO2.out i
  have hlt := H2.out.lt
  have hl2 := blk_lt HO2.out
  simp only [List.take_succ_cons, List.take_zero, List.drop_succ_cons, List.drop_zero]
  repeat still_step
  refine wpStill_nil ?_
  obtain ⟨z1, hz1, hm1⟩ := H2.out.mf
  obtain ⟨kl, hkl⟩ := HK.out
  refine wpl_store ha_inj rfl _ _ _ 123 rfl hm1 lawH Try.underlying123 (by unfold maxLen; have := HN.out; omega) (y := (x, y)) hkl (val := faV (1, d)) rfl rfl rfl ?_
  intro w4 hm4 hg4
  rw [fV_upd] at hm4
  have HM4 := Aside0.mk (H2.out.putF hm4 (by split <;> omega) hg4)
  have HF4 := Aside0.mk (HF2.out.trans ((Fr.of_grown hg4).mono (fun g q => .inr (.inl (Option.some.inj q)))))
  have HO4 := Aside0.mk (blk_grown HO2.out hg4 (fun q => by obtain ⟨_, _, q2⟩ := hm1.block; exact map_ne HO2.out q2 (Option.some.inj q)))
  clear hm4 hg4 hm1 hz1 H2 HF2 HO2 hkl hd hd2 hlt hl2
  go_wp2
  refine still_tail_at' 8 (by kernel_rfl) (by kernel_rfl) fun w5 hw5 => ?_
  have H5 := Aside0.mk (show MdIs w5 B b (n + 1) _ m1 m2 by rw [hw5]; exact HM4.out.drew)
  have HF5 := Aside0.mk (show Fr w w5 (mdS b m1 m2) by rw [hw5]; exact HF4.out.drew)
  have HO5 := Aside0.mk (show w5.heap[w.heap.size]? = some (.cells #[.int .i64 x, .int .i64 y] 34 (0, 0)) by rw [hw5]; exact HO4.out)
  clear hw5 HM4 HF4 HO4
  have hd := fun i => H5.out.cell i
  have hd2 := fun i => blk_cell HO5.out i
  have hlt := H5.out.lt
  have hl2 := blk_lt HO5.out
  simp only [List.take_succ_cons, List.take_zero, List.drop_succ_cons, List.drop_zero]
  repeat still_step
  refine wpStill_nil ?_
  obtain ⟨z2, hz2, hm2⟩ := H5.out.ml
  refine wpl_store int_inj' rfl _ _ _ 95 rfl hm2 lawI Try.underlying95 (by unfold maxLen; have := HN.out; omega) (y := x) (keyOf_int_mk Try.underlying3 HX.out) (val := .int .i64 y) rfl rfl rfl ?_
  intro w6 hm6 hg6
  rw [iV_upd] at hm6
  have HM6 := Aside0.mk (H5.out.putL hm6 (by split <;> omega) hg6)
  have HF6 := Aside0.mk (HF5.out.trans ((Fr.of_grown hg6).mono (fun g q => .inr (.inr (Option.some.inj q)))))
  clear hm6 hg6 hm2 hz2 H5 HF5 HO5 hd hd2
  go_wp2
  go_end0
  exact ⟨rfl, HM6.out, HF6.out⟩
set_option maxHeartbeats 4000000 in
set_option maxRecDepth 100000 in
theorem start1_any {w : World} {B b n m1 m2 eb xb : Nat} {m : Md} (e : Ev) (hn : n ≤ 1000000) (hx : (Lit.int .i64 e.nn).wf = true) (hy : (Lit.int .i64 e.ng).wf = true) (h : MdIs w B b n m m1 m2) (he : w.heap[eb]? = some (.cells (evA e) 54 (0, 0))) (hxb : w.heap[xb]? = some (.cells #[pA b] 58 (0, 0))) :
    Calls Try.prog 101 #[pA xb, pA eb] w fun r w' => r = .returned (.tuple #[]) ∧ MdIs w' B b (n + 2) (m.arm e.new e.t) m1 m2 ∧ Fr w w' (mdS b m1 m2) := by
  have hu1 := Try.underlying34
  have hu2 := Try.underlying54
  have CA := Aside0.mk (arm_any e.nn e.ng e.t hn hx hy h)
  have hce := fun i => blk_cell he i
  have hcx := fun i => blk_cell hxb i
  have hle := blk_lt he
  have hlx := blk_lt hxb
  clear h he hxb hx hy hn
  go_enter Try.func101, Try.ntmps101
  go_wp2_with (go_at_call 102; (with_reducible refine CA.out.mono ?_); rintro r w2 ⟨rfl, hm, hf⟩; have HM := Aside0.mk (And.intro hm hf); clear hm hf)
  go_end0
  exact ⟨rfl, HM.out⟩
set_option maxHeartbeats 4000000 in
set_option maxRecDepth 100000 in
theorem rearm1_any {w : World} {B b n m1 m2 eb xb : Nat} {m : Md} (e : Ev) (hn : n + 1 ≤ 1000000) (hx : (Lit.int .i64 e.nn).wf = true) (hy : (Lit.int .i64 e.ng).wf = true) (hx' : (Lit.int .i64 e.hn).wf = true) (hy' : (Lit.int .i64 e.hg).wf = true) (h : MdIs w B b n m m1 m2) (he : w.heap[eb]? = some (.cells (evA e) 54 (0, 0))) (hxb : w.heap[xb]? = some (.cells #[pA b] 58 (0, 0))) :
    Calls Try.prog 103 #[pA xb, pA eb] w fun r w' => r = .returned (.tuple #[]) ∧ MdIs w' B b (n + 3) ((m.end_ e.h 4).arm e.new e.t) m1 m2 ∧ Fr w w' (mdS b m1 m2) := by
  have hu1 := Try.underlying34
  have hu2 := Try.underlying54
  have CE := Aside0.mk (fun W => end_any b e.hn e.hg 4 W)
  have H0 := Aside0.mk (show MdIs (((w.alloc (.cells #[pA b] 58)).alloc (.cells #[.int .i64 e.hn, .int .i64 e.hg] 34)).alloc (.cells #[.int .i64 4] 3)) B b n m m1 m2 from ((h.alloc _).alloc _).alloc _)
  have HO := Aside0.mk (show (((w.alloc (.cells #[pA b] 58)).alloc (.cells #[.int .i64 e.hn, .int .i64 e.hg] 34)).alloc (.cells #[.int .i64 4] 3)).heap[w.heap.size + 1 + 1]? = some (.cells #[.int .i64 4] 3 (0, 0)) ∧ (((w.alloc (.cells #[pA b] 58)).alloc (.cells #[.int .i64 e.hn, .int .i64 e.hg] 34)).alloc (.cells #[.int .i64 4] 3)).heap[w.heap.size]? = some (.cells #[pA b] 58 (0, 0)) ∧ (((w.alloc (.cells #[pA b] 58)).alloc (.cells #[.int .i64 e.hn, .int .i64 e.hg] 34)).alloc (.cells #[.int .i64 4] 3)).heap[w.heap.size + 1]? = some (.cells #[.int .i64 e.hn, .int .i64 e.hg] 34 (0, 0)) from
    ⟨by simpa using blk_new ((w.alloc (.cells #[pA b] 58)).alloc (.cells #[.int .i64 e.hn, .int .i64 e.hg] 34)) (.cells #[.int .i64 4] 3), blk_alloc (blk_alloc (blk_new _ _) _) _, blk_alloc (by simpa using blk_new (w.alloc (.cells #[pA b] 58)) (.cells #[.int .i64 e.hn, .int .i64 e.hg] 34)) _⟩)
  have CE1 := Aside0.mk (end1_any 4 e.hn e.hg (by omega) hx' hy' H0.out HO.out.1 HO.out.2.1 HO.out.2.2)
  have CA : Aside0 (∀ W, MdIs W B b (n + 1) (m.end_ e.h 4) m1 m2 → Calls Try.prog 102 #[pA b, .agg #[.int .i64 e.nn, .int .i64 e.ng], .int .i64 e.t] W fun r w' => r = .returned (.tuple #[]) ∧ MdIs w' B b (n + 1 + 2) ((m.end_ e.h 4).arm (e.nn, e.ng) e.t) m1 m2 ∧ Fr W w' (mdS b m1 m2)) := ⟨fun W hW => arm_any e.nn e.ng e.t hn hx hy hW⟩
  have HE := Aside0.mk he
  have HX := Aside0.mk hxb
  have HMD := Aside0.mk h
  have hce := fun i => blk_cell he i
  have hcx := fun i => blk_cell hxb i
  have hle := blk_lt he
  have hlx := blk_lt hxb
  clear h he hxb hx hy hx' hy' hn
  go_enter Try.func103, Try.ntmps103
  go_wp2_with (first
    | (go_at_call 75; (with_reducible refine (CE.out _).mono ?_); rintro r w2 ⟨rfl, rfl⟩)
    | (go_at_call 99; (with_reducible refine CE1.out.mono ?_); rintro r w3 ⟨rfl, hm, hf⟩; have HM := Aside0.mk (And.intro hm (((((Fr.refl w (mdS b m1 m2)).alloc _).alloc _).alloc _).trans hf)); have HE3 := Aside0.mk (HM.out.2.blk HE.out (fun q => by rcases q with q | q | q; exact types_ne HE.out HMD.out.blk (by decide) q; (obtain ⟨z, _, hz⟩ := HMD.out.mf; obtain ⟨_, _, hq⟩ := hz.block; exact map_ne HE.out hq q); (obtain ⟨z, _, hz⟩ := HMD.out.ml; obtain ⟨_, _, hq⟩ := hz.block; exact map_ne HE.out hq q))); have HX3 := Aside0.mk (HM.out.2.blk HX.out (fun q => by rcases q with q | q | q; exact types_ne HX.out HMD.out.blk (by decide) q; (obtain ⟨z, _, hz⟩ := HMD.out.mf; obtain ⟨_, _, hq⟩ := hz.block; exact map_ne HX.out hq q); (obtain ⟨z, _, hz⟩ := HMD.out.ml; obtain ⟨_, _, hq⟩ := hz.block; exact map_ne HX.out hq q))); clear hm hf hce hcx hle hlx; have hce := fun i => blk_cell HE3.out i; have hcx := fun i => blk_cell HX3.out i; have hle := blk_lt HE3.out; have hlx := blk_lt HX3.out)
    | (go_at_call 102; (with_reducible refine (CA.out _ HM.out.1).mono ?_); rintro r w4 ⟨rfl, hm, hf⟩; have HM4 := Aside0.mk (And.intro hm (HM.out.2.trans hf)); clear hm hf))
  go_end0
  exact ⟨rfl, HM4.out⟩
end Go.Proofs.Ythniclbmpeklmaa.Ju
end
section
namespace Go.Proofs.Ythniclbmpeklmaa.Ev
open Go.RowKit Go.Proofs.YthniclbmpeklmaaW.PrintWords Go.Proofs.YthniclbmpeklmaaW.PrintLast Go.Proofs.YthniclbmpeklmaaW.PrintMore
set_option linter.unusedVariables false
set_option linter.unusedSimpArgs false
theorem pick_yes (L : List Int) (op : Int) (b : Nat) (w : World) (hL : L.length ≤ 100) (hc : ∀ j, j < L.length → w.cell? ⟨b, j, none⟩ = some (.int .i64 (L.getD j 0))) (h1 : 1 ≤ op) (h2 : op < L.length) :
    Calls Try.prog 106 #[.slice (some ⟨b, 0, none⟩) L.length L.length, .int .i64 op] w fun e w' => e = .returned (.tuple #[.int .i64 (L.getD op.toNat 0), .bool true]) ∧ w' = w := by
  have c0 := hc op.toNat (by omega)
  have d1 : decide (op < 1) = false := by simp; omega
  have d2 : decide ((L.length : Int) ≤ op) = false := by simp; omega
  obtain ⟨x, hx⟩ : ∃ x, x = L.getD op.toNat 0 := ⟨_, rfl⟩
  rw [← hx] at c0 ⊢
  clear hc hx
  go_enter Try.func106, Try.ntmps106
  go_wp2
  go_ret2
  exact ⟨rfl, rfl⟩
theorem pick_no (L : List Int) (op : Int) (b : Nat) (w : World) (hL : L.length ≤ 100) (h : op < 1 ∨ (L.length : Int) ≤ op) :
    Calls Try.prog 106 #[.slice (some ⟨b, 0, none⟩) L.length L.length, .int .i64 op] w fun e w' => e = .returned (.tuple #[.int .i64 0, .bool false]) ∧ w' = w := by
  by_cases h1 : op < 1
  · have d1 : decide (op < 1) = true := decide_eq_true h1
    go_enter Try.func106, Try.ntmps106
    go_wp2
    go_ret2
    exact ⟨rfl, rfl⟩
  · have d1 : decide (op < 1) = false := decide_eq_false h1
    have d2 : decide ((L.length : Int) ≤ op) = true := by simp; omega
    clear h h1
    go_enter Try.func106, Try.ntmps106
    go_wp2
    go_ret2
    exact ⟨rfl, rfl⟩
/-- An operation's fields. -/
def pickL (L : List Int) (op : Int) : Int × Bool := if op < 1 ∨ (L.length : Int) ≤ op then (0, false) else (L.getD op.toNat 0, true)
theorem cells_lit (W : World) (L : List Int) (C : Array Value) (t : TypeId) (hC : C = (L.map (Value.int .i64)).toArray) (b : Nat) (hb : b = W.heap.size) : ∀ j, j < L.length → (W.alloc (.cells C t)).cell? ⟨b, j, none⟩ = some (.int .i64 (L.getD j 0)) := by
  subst hC hb
  intro j hj
  rw [World.cell?_alloc_new]
  simp [List.getD_eq_getElem?_getD, hj]
theorem pick_any (L : List Int) (n : Nat) (hn : L.length = n) (op : Int) (b : Nat) (w : World) (hL : L.length ≤ 100) (hc : ∀ j, j < L.length → w.cell? ⟨b, j, none⟩ = some (.int .i64 (L.getD j 0))) :
    Calls Try.prog 106 #[.slice (some ⟨b, 0, none⟩) n n, .int .i64 op] w fun e w' => e = .returned (.tuple #[.int .i64 (pickL L op).1, .bool (pickL L op).2]) ∧ w' = w := by
  subst hn
  unfold pickL
  by_cases h : op < 1 ∨ (L.length : Int) ≤ op
  · rw [if_pos h]; exact pick_no L op b w hL h
  · rw [if_neg h]; exact pick_yes L op b w hL hc (by omega) (by omega)
/-- What an event's kind and operation have, and whether there are such ones. -/
def fieldsF (k wk op er : Int) : Int × Bool :=
  if k = 1 then (4, op == 0 && wk == 0)
  else if k = 4 then (21, op == 0)
  else if k = 2 then pickL [0, 28, 1, 5, 9, 0, 0, 0] op
  else if k = 3 then (if er = 0 then (pickL [0, 70, 33, 71, 65] op).1 else bits BinOp.andNot IntKind.i64 (pickL [0, 70, 33, 71, 65] op).1 6, (pickL [0, 70, 33, 71, 65] op).2)
  else if k = 5 then (if er = 0 then (pickL [0, 66, 32, 66, 64, 0, 4, 4] op).1 else bits BinOp.andNot IntKind.i64 (pickL [0, 66, 32, 66, 64, 0, 4, 4] op).1 2, (pickL [0, 66, 32, 66, 64, 0, 4, 4] op).2)
  else (0, false)
set_option maxHeartbeats 4000000 in
set_option maxRecDepth 100000 in
theorem fields_any (k wk op hn hg nn ng t a u : Int) (y : Bool) (er : Int) (w : World) :
    Calls Try.prog 92 #[.agg (evC k wk op hn hg nn ng t a u y er)] w fun e w' => e = .returned (.tuple #[.int .i64 (fieldsF k wk op er).1, .bool (fieldsF k wk op er).2]) ∧ Below w.heap.size w w' := by
  have hu := Try.underlying54
  have HB := Aside0.mk (Below.refl w.heap.size w)
  unfold fieldsF
  by_cases k1 : k = 1
  · subst k1
    rw [if_pos rfl]
    cases ho : (op == 0)
    all_goals
      go_enter Try.func92, Try.ntmps92
      go_wp2
      go_quiet (fail)
      go_wp2
      go_ret2
      exact ⟨by simp [*], by repeat (first | exact HB.out | apply below_alloc | apply pw_below_drewN)⟩
  · rw [if_neg k1]
    have b1 : (k == 1) = false := beq_eq_false_iff_ne.2 k1
    clear k1
    by_cases k4 : k = 4
    · subst k4
      rw [if_pos rfl]
      go_enter Try.func92, Try.ntmps92
      go_wp2
      go_ret2
      exact ⟨by simp [*], by repeat (first | exact HB.out | apply below_alloc | apply pw_below_drewN)⟩
    · rw [if_neg k4]
      have b4 : (k == 4) = false := beq_eq_false_iff_ne.2 k4
      clear k4
      by_cases k2 : k = 2
      · subst k2
        rw [if_pos rfl]
        go_enter Try.func92, Try.ntmps92
        go_wp2_with (go_at_call 106; (with_reducible refine (pick_any [0, 28, 1, 5, 9, 0, 0, 0] 8 rfl _ _ _ (by decide) (cells_lit _ [0, 28, 1, 5, 9, 0, 0, 0] _ _ ?c1 _ ?c2)).mono ?_); (case c1 => rfl); (case c2 => simp); rintro e w1 ⟨rfl, rfl⟩)
        go_ret2
        exact ⟨by simp [*], by repeat (first | exact HB.out | apply below_alloc | apply pw_below_drewN)⟩
      · rw [if_neg k2]
        have b2 : (k == 2) = false := beq_eq_false_iff_ne.2 k2
        clear k2
        by_cases k3 : k = 3
        · subst k3
          rw [if_pos rfl]
          cases he : (er == 0)
          · rw [if_neg (beq_eq_false_iff_ne.1 he)]
            have he2 : (er != 0) = true := by simp [bne, he]
            go_enter Try.func92, Try.ntmps92
            go_wp2_with (go_at_call 106; (with_reducible refine (pick_any [0, 70, 33, 71, 65] 5 rfl _ _ _ (by decide) (cells_lit _ [0, 70, 33, 71, 65] _ _ ?c1 _ ?c2)).mono ?_); (case c1 => rfl); (case c2 => simp); rintro e w1 ⟨rfl, rfl⟩)
            go_ret2
            exact ⟨by simp [*], by repeat (first | exact HB.out | apply below_alloc | apply pw_below_drewN)⟩
          · rw [if_pos (beq_iff_eq.1 he)]
            have he2 : (er != 0) = false := by simp [bne, he]
            go_enter Try.func92, Try.ntmps92
            go_wp2_with (go_at_call 106; (with_reducible refine (pick_any [0, 70, 33, 71, 65] 5 rfl _ _ _ (by decide) (cells_lit _ [0, 70, 33, 71, 65] _ _ ?c1 _ ?c2)).mono ?_); (case c1 => rfl); (case c2 => simp); rintro e w1 ⟨rfl, rfl⟩)
            go_ret2
            exact ⟨by simp [*], by repeat (first | exact HB.out | apply below_alloc | apply pw_below_drewN)⟩
        · rw [if_neg k3]
          have b3 : (k == 3) = false := beq_eq_false_iff_ne.2 k3
          clear k3
          by_cases k5 : k = 5
          · subst k5
            rw [if_pos rfl]
            cases he : (er == 0)
            · rw [if_neg (beq_eq_false_iff_ne.1 he)]
              have he2 : (er != 0) = true := by simp [bne, he]
              go_enter Try.func92, Try.ntmps92
              go_wp2_with (go_at_call 106; (with_reducible refine (pick_any [0, 66, 32, 66, 64, 0, 4, 4] 8 rfl _ _ _ (by decide) (cells_lit _ [0, 66, 32, 66, 64, 0, 4, 4] _ _ ?c1 _ ?c2)).mono ?_); (case c1 => rfl); (case c2 => simp); rintro e w1 ⟨rfl, rfl⟩)
              go_ret2
              exact ⟨by simp [*], by repeat (first | exact HB.out | apply below_alloc | apply pw_below_drewN)⟩
            · rw [if_pos (beq_iff_eq.1 he)]
              have he2 : (er != 0) = false := by simp [bne, he]
              go_enter Try.func92, Try.ntmps92
              go_wp2_with (go_at_call 106; (with_reducible refine (pick_any [0, 66, 32, 66, 64, 0, 4, 4] 8 rfl _ _ _ (by decide) (cells_lit _ [0, 66, 32, 66, 64, 0, 4, 4] _ _ ?c1 _ ?c2)).mono ?_); (case c1 => rfl); (case c2 => simp); rintro e w1 ⟨rfl, rfl⟩)
              go_ret2
              exact ⟨by simp [*], by repeat (first | exact HB.out | apply below_alloc | apply pw_below_drewN)⟩
          · rw [if_neg k5]
            have b5 : (k == 5) = false := beq_eq_false_iff_ne.2 k5
            clear k5
            go_enter Try.func92, Try.ntmps92
            go_wp2
            go_ret2
            exact ⟨by simp [*], by repeat (first | exact HB.out | apply below_alloc | apply pw_below_drewN)⟩
end Go.Proofs.Ythniclbmpeklmaa.Ev
end
section
namespace Go.Proofs.Ythniclbmpeklmaa.Ev
open Go.RowKit Go.Proofs.YthniclbmpeklmaaW.PrintWords Go.Proofs.YthniclbmpeklmaaW.PrintLast Go.Proofs.YthniclbmpeklmaaW.PrintMore
set_option linter.unusedVariables false
set_option linter.unusedSimpArgs false
set_option maxHeartbeats 4000000 in
set_option maxRecDepth 100000 in
theorem bare_0 (k wk op hn hg nn ng t a u : Int) (y : Bool) (er : Int) (w : World) :
    Calls Try.prog 94 #[.agg (evC k wk op hn hg nn ng t a u y er), .int .i64 0] w fun e w' => e = .returned (.agg (evC k wk op hn hg nn ng t a u y er)) ∧ Below w.heap.size w w' := by
  have hu := Try.underlying54
  have hu2 := Try.underlying34
  have b1 : bits BinOp.and IntKind.i64 0 1 = 0 := by decide
  have b2 : bits BinOp.and IntKind.i64 0 2 = 0 := by decide
  have b4 : bits BinOp.and IntKind.i64 0 4 = 0 := by decide
  have b8 : bits BinOp.and IntKind.i64 0 8 = 0 := by decide
  have b16 : bits BinOp.and IntKind.i64 0 16 = 0 := by decide
  have b32 : bits BinOp.and IntKind.i64 0 32 = 0 := by decide
  have b64 : bits BinOp.and IntKind.i64 0 64 = 0 := by decide
  have HB := Aside0.mk (Below.refl w.heap.size w)
  cases y
  all_goals
    go_enter Try.func94, Try.ntmps94
    go_wp2
    go_rounds 4
    refine bodyPost_ret (v := .agg (evC k wk op hn hg nn ng t a u _ er)) (by simp [results, Try.results94, go_sem]) rfl ⟨rfl, ?_⟩
    repeat (first | exact HB.out | apply below_alloc | apply pw_below_drewN | refine Below.setCell ?_ (by simp) _)
set_option maxHeartbeats 4000000 in
set_option maxRecDepth 100000 in
theorem bare_1 (k wk op hn hg nn ng t a u : Int) (y : Bool) (er : Int) (w : World) :
    Calls Try.prog 94 #[.agg (evC k wk op hn hg nn ng t a u y er), .int .i64 1] w fun e w' => e = .returned (.agg (evC k wk op 0 0 nn ng t a u y er)) ∧ Below w.heap.size w w' := by
  have hu := Try.underlying54
  have hu2 := Try.underlying34
  have b1 : bits BinOp.and IntKind.i64 1 1 = 1 := by decide
  have b2 : bits BinOp.and IntKind.i64 1 2 = 0 := by decide
  have b4 : bits BinOp.and IntKind.i64 1 4 = 0 := by decide
  have b8 : bits BinOp.and IntKind.i64 1 8 = 0 := by decide
  have b16 : bits BinOp.and IntKind.i64 1 16 = 0 := by decide
  have b32 : bits BinOp.and IntKind.i64 1 32 = 0 := by decide
  have b64 : bits BinOp.and IntKind.i64 1 64 = 0 := by decide
  have HB := Aside0.mk (Below.refl w.heap.size w)
  cases y
  all_goals
    go_enter Try.func94, Try.ntmps94
    go_wp2
    go_rounds 4
    refine bodyPost_ret (v := .agg (evC k wk op 0 0 nn ng t a u _ er)) (by simp [results, Try.results94, go_sem]) rfl ⟨rfl, ?_⟩
    repeat (first | exact HB.out | apply below_alloc | apply pw_below_drewN | refine Below.setCell ?_ (by simp) _)
set_option maxHeartbeats 4000000 in
set_option maxRecDepth 100000 in
theorem bare_4 (k wk op hn hg nn ng t a u : Int) (y : Bool) (er : Int) (w : World) :
    Calls Try.prog 94 #[.agg (evC k wk op hn hg nn ng t a u y er), .int .i64 4] w fun e w' => e = .returned (.agg (evC k wk op hn hg nn ng 0 a u y er)) ∧ Below w.heap.size w w' := by
  have hu := Try.underlying54
  have hu2 := Try.underlying34
  have b1 : bits BinOp.and IntKind.i64 4 1 = 0 := by decide
  have b2 : bits BinOp.and IntKind.i64 4 2 = 0 := by decide
  have b4 : bits BinOp.and IntKind.i64 4 4 = 4 := by decide
  have b8 : bits BinOp.and IntKind.i64 4 8 = 0 := by decide
  have b16 : bits BinOp.and IntKind.i64 4 16 = 0 := by decide
  have b32 : bits BinOp.and IntKind.i64 4 32 = 0 := by decide
  have b64 : bits BinOp.and IntKind.i64 4 64 = 0 := by decide
  have HB := Aside0.mk (Below.refl w.heap.size w)
  cases y
  all_goals
    go_enter Try.func94, Try.ntmps94
    go_wp2
    go_rounds 4
    refine bodyPost_ret (v := .agg (evC k wk op hn hg nn ng 0 a u _ er)) (by simp [results, Try.results94, go_sem]) rfl ⟨rfl, ?_⟩
    repeat (first | exact HB.out | apply below_alloc | apply pw_below_drewN | refine Below.setCell ?_ (by simp) _)
set_option maxHeartbeats 4000000 in
set_option maxRecDepth 100000 in
theorem bare_5 (k wk op hn hg nn ng t a u : Int) (y : Bool) (er : Int) (w : World) :
    Calls Try.prog 94 #[.agg (evC k wk op hn hg nn ng t a u y er), .int .i64 5] w fun e w' => e = .returned (.agg (evC k wk op 0 0 nn ng 0 a u y er)) ∧ Below w.heap.size w w' := by
  have hu := Try.underlying54
  have hu2 := Try.underlying34
  have b1 : bits BinOp.and IntKind.i64 5 1 = 1 := by decide
  have b2 : bits BinOp.and IntKind.i64 5 2 = 0 := by decide
  have b4 : bits BinOp.and IntKind.i64 5 4 = 4 := by decide
  have b8 : bits BinOp.and IntKind.i64 5 8 = 0 := by decide
  have b16 : bits BinOp.and IntKind.i64 5 16 = 0 := by decide
  have b32 : bits BinOp.and IntKind.i64 5 32 = 0 := by decide
  have b64 : bits BinOp.and IntKind.i64 5 64 = 0 := by decide
  have HB := Aside0.mk (Below.refl w.heap.size w)
  cases y
  all_goals
    go_enter Try.func94, Try.ntmps94
    go_wp2
    go_rounds 4
    refine bodyPost_ret (v := .agg (evC k wk op 0 0 nn ng 0 a u _ er)) (by simp [results, Try.results94, go_sem]) rfl ⟨rfl, ?_⟩
    repeat (first | exact HB.out | apply below_alloc | apply pw_below_drewN | refine Below.setCell ?_ (by simp) _)
set_option maxHeartbeats 4000000 in
set_option maxRecDepth 100000 in
theorem bare_9 (k wk op hn hg nn ng t a u : Int) (y : Bool) (er : Int) (w : World) :
    Calls Try.prog 94 #[.agg (evC k wk op hn hg nn ng t a u y er), .int .i64 9] w fun e w' => e = .returned (.agg (evC k wk op 0 0 nn ng t 0 u y er)) ∧ Below w.heap.size w w' := by
  have hu := Try.underlying54
  have hu2 := Try.underlying34
  have b1 : bits BinOp.and IntKind.i64 9 1 = 1 := by decide
  have b2 : bits BinOp.and IntKind.i64 9 2 = 0 := by decide
  have b4 : bits BinOp.and IntKind.i64 9 4 = 0 := by decide
  have b8 : bits BinOp.and IntKind.i64 9 8 = 8 := by decide
  have b16 : bits BinOp.and IntKind.i64 9 16 = 0 := by decide
  have b32 : bits BinOp.and IntKind.i64 9 32 = 0 := by decide
  have b64 : bits BinOp.and IntKind.i64 9 64 = 0 := by decide
  have HB := Aside0.mk (Below.refl w.heap.size w)
  cases y
  all_goals
    go_enter Try.func94, Try.ntmps94
    go_wp2
    go_rounds 4
    refine bodyPost_ret (v := .agg (evC k wk op 0 0 nn ng t 0 u _ er)) (by simp [results, Try.results94, go_sem]) rfl ⟨rfl, ?_⟩
    repeat (first | exact HB.out | apply below_alloc | apply pw_below_drewN | refine Below.setCell ?_ (by simp) _)
set_option maxHeartbeats 4000000 in
set_option maxRecDepth 100000 in
theorem bare_21 (k wk op hn hg nn ng t a u : Int) (y : Bool) (er : Int) (w : World) :
    Calls Try.prog 94 #[.agg (evC k wk op hn hg nn ng t a u y er), .int .i64 21] w fun e w' => e = .returned (.agg (evC k wk op 0 0 nn ng 0 a 0 y er)) ∧ Below w.heap.size w w' := by
  have hu := Try.underlying54
  have hu2 := Try.underlying34
  have b1 : bits BinOp.and IntKind.i64 21 1 = 1 := by decide
  have b2 : bits BinOp.and IntKind.i64 21 2 = 0 := by decide
  have b4 : bits BinOp.and IntKind.i64 21 4 = 4 := by decide
  have b8 : bits BinOp.and IntKind.i64 21 8 = 0 := by decide
  have b16 : bits BinOp.and IntKind.i64 21 16 = 16 := by decide
  have b32 : bits BinOp.and IntKind.i64 21 32 = 0 := by decide
  have b64 : bits BinOp.and IntKind.i64 21 64 = 0 := by decide
  have HB := Aside0.mk (Below.refl w.heap.size w)
  cases y
  all_goals
    go_enter Try.func94, Try.ntmps94
    go_wp2
    go_rounds 4
    refine bodyPost_ret (v := .agg (evC k wk op 0 0 nn ng 0 a 0 _ er)) (by simp [results, Try.results94, go_sem]) rfl ⟨rfl, ?_⟩
    repeat (first | exact HB.out | apply below_alloc | apply pw_below_drewN | refine Below.setCell ?_ (by simp) _)
set_option maxHeartbeats 4000000 in
set_option maxRecDepth 100000 in
theorem bare_28 (k wk op hn hg nn ng t a u : Int) (y : Bool) (er : Int) (w : World) :
    Calls Try.prog 94 #[.agg (evC k wk op hn hg nn ng t a u y er), .int .i64 28] w fun e w' => e = .returned (.agg (evC k wk op hn hg nn ng 0 0 0 y er)) ∧ Below w.heap.size w w' := by
  have hu := Try.underlying54
  have hu2 := Try.underlying34
  have b1 : bits BinOp.and IntKind.i64 28 1 = 0 := by decide
  have b2 : bits BinOp.and IntKind.i64 28 2 = 0 := by decide
  have b4 : bits BinOp.and IntKind.i64 28 4 = 4 := by decide
  have b8 : bits BinOp.and IntKind.i64 28 8 = 8 := by decide
  have b16 : bits BinOp.and IntKind.i64 28 16 = 16 := by decide
  have b32 : bits BinOp.and IntKind.i64 28 32 = 0 := by decide
  have b64 : bits BinOp.and IntKind.i64 28 64 = 0 := by decide
  have HB := Aside0.mk (Below.refl w.heap.size w)
  cases y
  all_goals
    go_enter Try.func94, Try.ntmps94
    go_wp2
    go_rounds 4
    refine bodyPost_ret (v := .agg (evC k wk op hn hg nn ng 0 0 0 _ er)) (by simp [results, Try.results94, go_sem]) rfl ⟨rfl, ?_⟩
    repeat (first | exact HB.out | apply below_alloc | apply pw_below_drewN | refine Below.setCell ?_ (by simp) _)
set_option maxHeartbeats 4000000 in
set_option maxRecDepth 100000 in
theorem bare_32 (k wk op hn hg nn ng t a u : Int) (y : Bool) (er : Int) (w : World) :
    Calls Try.prog 94 #[.agg (evC k wk op hn hg nn ng t a u y er), .int .i64 32] w fun e w' => e = .returned (.agg (evC k wk op hn hg nn ng t a u false er)) ∧ Below w.heap.size w w' := by
  have hu := Try.underlying54
  have hu2 := Try.underlying34
  have b1 : bits BinOp.and IntKind.i64 32 1 = 0 := by decide
  have b2 : bits BinOp.and IntKind.i64 32 2 = 0 := by decide
  have b4 : bits BinOp.and IntKind.i64 32 4 = 0 := by decide
  have b8 : bits BinOp.and IntKind.i64 32 8 = 0 := by decide
  have b16 : bits BinOp.and IntKind.i64 32 16 = 0 := by decide
  have b32 : bits BinOp.and IntKind.i64 32 32 = 32 := by decide
  have b64 : bits BinOp.and IntKind.i64 32 64 = 0 := by decide
  have HB := Aside0.mk (Below.refl w.heap.size w)
  cases y
  all_goals
    go_enter Try.func94, Try.ntmps94
    go_wp2
    go_rounds 4
    refine bodyPost_ret (v := .agg (evC k wk op hn hg nn ng t a u _ er)) (by simp [results, Try.results94, go_sem]) rfl ⟨rfl, ?_⟩
    repeat (first | exact HB.out | apply below_alloc | apply pw_below_drewN | refine Below.setCell ?_ (by simp) _)
set_option maxHeartbeats 4000000 in
set_option maxRecDepth 100000 in
theorem bare_33 (k wk op hn hg nn ng t a u : Int) (y : Bool) (er : Int) (w : World) :
    Calls Try.prog 94 #[.agg (evC k wk op hn hg nn ng t a u y er), .int .i64 33] w fun e w' => e = .returned (.agg (evC k wk op 0 0 nn ng t a u false er)) ∧ Below w.heap.size w w' := by
  have hu := Try.underlying54
  have hu2 := Try.underlying34
  have b1 : bits BinOp.and IntKind.i64 33 1 = 1 := by decide
  have b2 : bits BinOp.and IntKind.i64 33 2 = 0 := by decide
  have b4 : bits BinOp.and IntKind.i64 33 4 = 0 := by decide
  have b8 : bits BinOp.and IntKind.i64 33 8 = 0 := by decide
  have b16 : bits BinOp.and IntKind.i64 33 16 = 0 := by decide
  have b32 : bits BinOp.and IntKind.i64 33 32 = 32 := by decide
  have b64 : bits BinOp.and IntKind.i64 33 64 = 0 := by decide
  have HB := Aside0.mk (Below.refl w.heap.size w)
  cases y
  all_goals
    go_enter Try.func94, Try.ntmps94
    go_wp2
    go_rounds 4
    refine bodyPost_ret (v := .agg (evC k wk op 0 0 nn ng t a u _ er)) (by simp [results, Try.results94, go_sem]) rfl ⟨rfl, ?_⟩
    repeat (first | exact HB.out | apply below_alloc | apply pw_below_drewN | refine Below.setCell ?_ (by simp) _)
set_option maxHeartbeats 4000000 in
set_option maxRecDepth 100000 in
theorem bare_64 (k wk op hn hg nn ng t a u : Int) (y : Bool) (er : Int) (w : World) :
    Calls Try.prog 94 #[.agg (evC k wk op hn hg nn ng t a u y er), .int .i64 64] w fun e w' => e = .returned (.agg (evC k wk op hn hg nn ng t a u y 0)) ∧ Below w.heap.size w w' := by
  have hu := Try.underlying54
  have hu2 := Try.underlying34
  have b1 : bits BinOp.and IntKind.i64 64 1 = 0 := by decide
  have b2 : bits BinOp.and IntKind.i64 64 2 = 0 := by decide
  have b4 : bits BinOp.and IntKind.i64 64 4 = 0 := by decide
  have b8 : bits BinOp.and IntKind.i64 64 8 = 0 := by decide
  have b16 : bits BinOp.and IntKind.i64 64 16 = 0 := by decide
  have b32 : bits BinOp.and IntKind.i64 64 32 = 0 := by decide
  have b64 : bits BinOp.and IntKind.i64 64 64 = 64 := by decide
  have HB := Aside0.mk (Below.refl w.heap.size w)
  cases y
  all_goals
    go_enter Try.func94, Try.ntmps94
    go_wp2
    go_rounds 4
    refine bodyPost_ret (v := .agg (evC k wk op hn hg nn ng t a u _ 0)) (by simp [results, Try.results94, go_sem]) rfl ⟨rfl, ?_⟩
    repeat (first | exact HB.out | apply below_alloc | apply pw_below_drewN | refine Below.setCell ?_ (by simp) _)
set_option maxHeartbeats 4000000 in
set_option maxRecDepth 100000 in
theorem bare_65 (k wk op hn hg nn ng t a u : Int) (y : Bool) (er : Int) (w : World) :
    Calls Try.prog 94 #[.agg (evC k wk op hn hg nn ng t a u y er), .int .i64 65] w fun e w' => e = .returned (.agg (evC k wk op 0 0 nn ng t a u y 0)) ∧ Below w.heap.size w w' := by
  have hu := Try.underlying54
  have hu2 := Try.underlying34
  have b1 : bits BinOp.and IntKind.i64 65 1 = 1 := by decide
  have b2 : bits BinOp.and IntKind.i64 65 2 = 0 := by decide
  have b4 : bits BinOp.and IntKind.i64 65 4 = 0 := by decide
  have b8 : bits BinOp.and IntKind.i64 65 8 = 0 := by decide
  have b16 : bits BinOp.and IntKind.i64 65 16 = 0 := by decide
  have b32 : bits BinOp.and IntKind.i64 65 32 = 0 := by decide
  have b64 : bits BinOp.and IntKind.i64 65 64 = 64 := by decide
  have HB := Aside0.mk (Below.refl w.heap.size w)
  cases y
  all_goals
    go_enter Try.func94, Try.ntmps94
    go_wp2
    go_rounds 4
    refine bodyPost_ret (v := .agg (evC k wk op 0 0 nn ng t a u _ 0)) (by simp [results, Try.results94, go_sem]) rfl ⟨rfl, ?_⟩
    repeat (first | exact HB.out | apply below_alloc | apply pw_below_drewN | refine Below.setCell ?_ (by simp) _)
set_option maxHeartbeats 4000000 in
set_option maxRecDepth 100000 in
theorem bare_66 (k wk op hn hg nn ng t a u : Int) (y : Bool) (er : Int) (w : World) :
    Calls Try.prog 94 #[.agg (evC k wk op hn hg nn ng t a u y er), .int .i64 66] w fun e w' => e = .returned (.agg (evC k wk op hn hg 0 0 t a u y 0)) ∧ Below w.heap.size w w' := by
  have hu := Try.underlying54
  have hu2 := Try.underlying34
  have b1 : bits BinOp.and IntKind.i64 66 1 = 0 := by decide
  have b2 : bits BinOp.and IntKind.i64 66 2 = 2 := by decide
  have b4 : bits BinOp.and IntKind.i64 66 4 = 0 := by decide
  have b8 : bits BinOp.and IntKind.i64 66 8 = 0 := by decide
  have b16 : bits BinOp.and IntKind.i64 66 16 = 0 := by decide
  have b32 : bits BinOp.and IntKind.i64 66 32 = 0 := by decide
  have b64 : bits BinOp.and IntKind.i64 66 64 = 64 := by decide
  have HB := Aside0.mk (Below.refl w.heap.size w)
  cases y
  all_goals
    go_enter Try.func94, Try.ntmps94
    go_wp2
    go_rounds 4
    refine bodyPost_ret (v := .agg (evC k wk op hn hg 0 0 t a u _ 0)) (by simp [results, Try.results94, go_sem]) rfl ⟨rfl, ?_⟩
    repeat (first | exact HB.out | apply below_alloc | apply pw_below_drewN | refine Below.setCell ?_ (by simp) _)
set_option maxHeartbeats 4000000 in
set_option maxRecDepth 100000 in
theorem bare_70 (k wk op hn hg nn ng t a u : Int) (y : Bool) (er : Int) (w : World) :
    Calls Try.prog 94 #[.agg (evC k wk op hn hg nn ng t a u y er), .int .i64 70] w fun e w' => e = .returned (.agg (evC k wk op hn hg 0 0 0 a u y 0)) ∧ Below w.heap.size w w' := by
  have hu := Try.underlying54
  have hu2 := Try.underlying34
  have b1 : bits BinOp.and IntKind.i64 70 1 = 0 := by decide
  have b2 : bits BinOp.and IntKind.i64 70 2 = 2 := by decide
  have b4 : bits BinOp.and IntKind.i64 70 4 = 4 := by decide
  have b8 : bits BinOp.and IntKind.i64 70 8 = 0 := by decide
  have b16 : bits BinOp.and IntKind.i64 70 16 = 0 := by decide
  have b32 : bits BinOp.and IntKind.i64 70 32 = 0 := by decide
  have b64 : bits BinOp.and IntKind.i64 70 64 = 64 := by decide
  have HB := Aside0.mk (Below.refl w.heap.size w)
  cases y
  all_goals
    go_enter Try.func94, Try.ntmps94
    go_wp2
    go_rounds 4
    refine bodyPost_ret (v := .agg (evC k wk op hn hg 0 0 0 a u _ 0)) (by simp [results, Try.results94, go_sem]) rfl ⟨rfl, ?_⟩
    repeat (first | exact HB.out | apply below_alloc | apply pw_below_drewN | refine Below.setCell ?_ (by simp) _)
set_option maxHeartbeats 4000000 in
set_option maxRecDepth 100000 in
theorem bare_71 (k wk op hn hg nn ng t a u : Int) (y : Bool) (er : Int) (w : World) :
    Calls Try.prog 94 #[.agg (evC k wk op hn hg nn ng t a u y er), .int .i64 71] w fun e w' => e = .returned (.agg (evC k wk op 0 0 0 0 0 a u y 0)) ∧ Below w.heap.size w w' := by
  have hu := Try.underlying54
  have hu2 := Try.underlying34
  have b1 : bits BinOp.and IntKind.i64 71 1 = 1 := by decide
  have b2 : bits BinOp.and IntKind.i64 71 2 = 2 := by decide
  have b4 : bits BinOp.and IntKind.i64 71 4 = 4 := by decide
  have b8 : bits BinOp.and IntKind.i64 71 8 = 0 := by decide
  have b16 : bits BinOp.and IntKind.i64 71 16 = 0 := by decide
  have b32 : bits BinOp.and IntKind.i64 71 32 = 0 := by decide
  have b64 : bits BinOp.and IntKind.i64 71 64 = 64 := by decide
  have HB := Aside0.mk (Below.refl w.heap.size w)
  cases y
  all_goals
    go_enter Try.func94, Try.ntmps94
    go_wp2
    go_rounds 4
    refine bodyPost_ret (v := .agg (evC k wk op 0 0 0 0 0 a u _ 0)) (by simp [results, Try.results94, go_sem]) rfl ⟨rfl, ?_⟩
    repeat (first | exact HB.out | apply below_alloc | apply pw_below_drewN | refine Below.setCell ?_ (by simp) _)
end Go.Proofs.Ythniclbmpeklmaa.Ev
end
section
namespace Go.Proofs.Ythniclbmpeklmaa.Ev
open Go.RowKit Go.Proofs.YthniclbmpeklmaaW.PrintWords Go.Proofs.YthniclbmpeklmaaW.PrintLast Go.Proofs.YthniclbmpeklmaaW.PrintMore
attribute [local go_sem] max2_int min2_int max_two min_two max_three min_three max_four min_four
set_option linter.unusedVariables false
set_option linter.unusedSimpArgs false
/-- Are the numbers of an event 0 or more? -/
def countedB (k hn hg nn ng t a u : Int) : Bool :=
  (k == 3 || (decide (0 ≤ hn) && decide (0 ≤ hg))) && (decide (0 ≤ nn) && decide (0 ≤ ng) && decide (0 ≤ a) && decide (0 ≤ u) && (if k = 5 then decide (-1 ≤ t) else decide (0 ≤ t)))
theorem counted_eq (k hn hg nn ng t a u m m1 m2 m3 : Int) (e : (if hg < hn then hg else hn) = m) (e1 : (if ng < nn then ng else nn) = m1) (e2 : (if a < m1 then a else m1) = m2) (e3 : (if u < m2 then u else m2) = m3) :
    countedB k hn hg nn ng t a u = ((k == 3 || decide (0 ≤ m)) && (decide (0 ≤ m3) && (if k = 5 then decide (-1 ≤ t) else decide (0 ≤ t)))) := by
  have h1 : decide (0 ≤ m) = (decide (0 ≤ hn) && decide (0 ≤ hg)) := by
    rw [Bool.eq_iff_iff]
    simp
    split at e <;> omega
  have h3 : decide (0 ≤ m3) = (decide (0 ≤ nn) && decide (0 ≤ ng) && decide (0 ≤ a) && decide (0 ≤ u)) := by
    rw [Bool.eq_iff_iff]
    simp
    split at e1 <;> split at e2 <;> split at e3 <;> omega
  rw [h1, h3, countedB]
set_option maxHeartbeats 4000000 in
set_option maxRecDepth 100000 in
theorem counted_any (k wk op hn hg nn ng t a u : Int) (y : Bool) (er : Int) (w : World) :
    Calls Try.prog 93 #[.agg (evC k wk op hn hg nn ng t a u y er)] w fun e w' => e = .returned (.bool (countedB k hn hg nn ng t a u)) ∧ Below w.heap.size w w' := by
  have hu := Try.underlying54
  have HB := Aside0.mk (Below.refl w.heap.size w)
  obtain ⟨m, e⟩ : ∃ m, (if hg < hn then hg else hn) = m := ⟨_, rfl⟩
  obtain ⟨m1, e1⟩ : ∃ m, (if ng < nn then ng else nn) = m := ⟨_, rfl⟩
  obtain ⟨m2, e2⟩ : ∃ m, (if a < m1 then a else m1) = m := ⟨_, rfl⟩
  obtain ⟨m3, e3⟩ : ∃ m, (if u < m2 then u else m2) = m := ⟨_, rfl⟩
  rw [counted_eq k hn hg nn ng t a u m m1 m2 m3 e e1 e2 e3]
  by_cases k3 : k = 3
  · subst k3
    go_enter Try.func93, Try.ntmps93
    go_wp2
    all_goals
      go_ret
      exact ⟨by simp [*] <;> omega, by repeat (first | exact HB.out | apply below_alloc | apply pw_below_drewN)⟩
  · have b3 : (k != 3) = true := bne_iff_ne.2 k3
    have b3' : (k == 3) = false := beq_eq_false_iff_ne.2 k3
    by_cases k5 : k = 5
    · subst k5
      clear k3
      go_enter Try.func93, Try.ntmps93
      go_wp2
      all_goals
        go_ret
        exact ⟨by simp [*] <;> omega, by repeat (first | exact HB.out | apply below_alloc | apply pw_below_drewN)⟩
    · have b5 : (k == 5) = false := beq_eq_false_iff_ne.2 k5
      rw [if_neg k5]
      clear k3 k5
      go_enter Try.func93, Try.ntmps93
      go_wp2
      all_goals
        go_ret
        exact ⟨by simp [*] <;> omega, by repeat (first | exact HB.out | apply below_alloc | apply pw_below_drewN)⟩
end Go.Proofs.Ythniclbmpeklmaa.Ev
end
section
namespace Go.Proofs.Ythniclbmpeklmaa.Ev
open Go.RowKit Go.Proofs.YthniclbmpeklmaaW.PrintWords Go.Proofs.YthniclbmpeklmaaW.PrintLast Go.Proofs.YthniclbmpeklmaaW.PrintMore
set_option linter.unusedVariables false
set_option linter.unusedSimpArgs false
/-- What is left of a field, when those of a set are taken away. -/
def zb (f b x : Int) : Int := if bits BinOp.and IntKind.i64 f b = 0 then x else 0
def zy (f : Int) (y : Bool) : Bool := y && bits BinOp.and IntKind.i64 f 32 == 0
def fset : List Int := [0, 1, 4, 5, 9, 21, 28, 32, 33, 64, 65, 66, 70, 71]
theorem bare_any (k wk op hn hg nn ng t a u : Int) (y : Bool) (er : Int) (f : Int) (hf : f ∈ fset) (w : World) :
    Calls Try.prog 94 #[.agg (evC k wk op hn hg nn ng t a u y er), .int .i64 f] w fun e w' => e = .returned (.agg (evC k wk op (zb f 1 hn) (zb f 1 hg) (zb f 2 nn) (zb f 2 ng) (zb f 4 t) (zb f 8 a) (zb f 16 u) (zy f y) (zb f 64 er))) ∧ Below w.heap.size w w' := by
  simp only [fset, List.mem_cons, List.not_mem_nil, or_false] at hf
  rcases hf with rfl | rfl | rfl | rfl | rfl | rfl | rfl | rfl | rfl | rfl | rfl | rfl | rfl | rfl
  · simpa only [zb, zy, show bits BinOp.and IntKind.i64 0 1 = 0 from by decide, show bits BinOp.and IntKind.i64 0 2 = 0 from by decide, show bits BinOp.and IntKind.i64 0 4 = 0 from by decide, show bits BinOp.and IntKind.i64 0 8 = 0 from by decide, show bits BinOp.and IntKind.i64 0 16 = 0 from by decide, show bits BinOp.and IntKind.i64 0 32 = 0 from by decide, show bits BinOp.and IntKind.i64 0 64 = 0 from by decide, if_true, show ¬ ((1 : Int) = 0) from by decide, show ¬ ((2 : Int) = 0) from by decide, show ¬ ((4 : Int) = 0) from by decide, show ¬ ((8 : Int) = 0) from by decide, show ¬ ((16 : Int) = 0) from by decide, show ¬ ((64 : Int) = 0) from by decide, if_false, show ((32 : Int) == 0) = false from by decide, show ((0 : Int) == 0) = true from by decide, Bool.and_true, Bool.and_false] using bare_0 k wk op hn hg nn ng t a u y er w
  · simpa only [zb, zy, show bits BinOp.and IntKind.i64 1 1 = 1 from by decide, show bits BinOp.and IntKind.i64 1 2 = 0 from by decide, show bits BinOp.and IntKind.i64 1 4 = 0 from by decide, show bits BinOp.and IntKind.i64 1 8 = 0 from by decide, show bits BinOp.and IntKind.i64 1 16 = 0 from by decide, show bits BinOp.and IntKind.i64 1 32 = 0 from by decide, show bits BinOp.and IntKind.i64 1 64 = 0 from by decide, if_true, show ¬ ((1 : Int) = 0) from by decide, show ¬ ((2 : Int) = 0) from by decide, show ¬ ((4 : Int) = 0) from by decide, show ¬ ((8 : Int) = 0) from by decide, show ¬ ((16 : Int) = 0) from by decide, show ¬ ((64 : Int) = 0) from by decide, if_false, show ((32 : Int) == 0) = false from by decide, show ((0 : Int) == 0) = true from by decide, Bool.and_true, Bool.and_false] using bare_1 k wk op hn hg nn ng t a u y er w
  · simpa only [zb, zy, show bits BinOp.and IntKind.i64 4 1 = 0 from by decide, show bits BinOp.and IntKind.i64 4 2 = 0 from by decide, show bits BinOp.and IntKind.i64 4 4 = 4 from by decide, show bits BinOp.and IntKind.i64 4 8 = 0 from by decide, show bits BinOp.and IntKind.i64 4 16 = 0 from by decide, show bits BinOp.and IntKind.i64 4 32 = 0 from by decide, show bits BinOp.and IntKind.i64 4 64 = 0 from by decide, if_true, show ¬ ((1 : Int) = 0) from by decide, show ¬ ((2 : Int) = 0) from by decide, show ¬ ((4 : Int) = 0) from by decide, show ¬ ((8 : Int) = 0) from by decide, show ¬ ((16 : Int) = 0) from by decide, show ¬ ((64 : Int) = 0) from by decide, if_false, show ((32 : Int) == 0) = false from by decide, show ((0 : Int) == 0) = true from by decide, Bool.and_true, Bool.and_false] using bare_4 k wk op hn hg nn ng t a u y er w
  · simpa only [zb, zy, show bits BinOp.and IntKind.i64 5 1 = 1 from by decide, show bits BinOp.and IntKind.i64 5 2 = 0 from by decide, show bits BinOp.and IntKind.i64 5 4 = 4 from by decide, show bits BinOp.and IntKind.i64 5 8 = 0 from by decide, show bits BinOp.and IntKind.i64 5 16 = 0 from by decide, show bits BinOp.and IntKind.i64 5 32 = 0 from by decide, show bits BinOp.and IntKind.i64 5 64 = 0 from by decide, if_true, show ¬ ((1 : Int) = 0) from by decide, show ¬ ((2 : Int) = 0) from by decide, show ¬ ((4 : Int) = 0) from by decide, show ¬ ((8 : Int) = 0) from by decide, show ¬ ((16 : Int) = 0) from by decide, show ¬ ((64 : Int) = 0) from by decide, if_false, show ((32 : Int) == 0) = false from by decide, show ((0 : Int) == 0) = true from by decide, Bool.and_true, Bool.and_false] using bare_5 k wk op hn hg nn ng t a u y er w
  · simpa only [zb, zy, show bits BinOp.and IntKind.i64 9 1 = 1 from by decide, show bits BinOp.and IntKind.i64 9 2 = 0 from by decide, show bits BinOp.and IntKind.i64 9 4 = 0 from by decide, show bits BinOp.and IntKind.i64 9 8 = 8 from by decide, show bits BinOp.and IntKind.i64 9 16 = 0 from by decide, show bits BinOp.and IntKind.i64 9 32 = 0 from by decide, show bits BinOp.and IntKind.i64 9 64 = 0 from by decide, if_true, show ¬ ((1 : Int) = 0) from by decide, show ¬ ((2 : Int) = 0) from by decide, show ¬ ((4 : Int) = 0) from by decide, show ¬ ((8 : Int) = 0) from by decide, show ¬ ((16 : Int) = 0) from by decide, show ¬ ((64 : Int) = 0) from by decide, if_false, show ((32 : Int) == 0) = false from by decide, show ((0 : Int) == 0) = true from by decide, Bool.and_true, Bool.and_false] using bare_9 k wk op hn hg nn ng t a u y er w
  · simpa only [zb, zy, show bits BinOp.and IntKind.i64 21 1 = 1 from by decide, show bits BinOp.and IntKind.i64 21 2 = 0 from by decide, show bits BinOp.and IntKind.i64 21 4 = 4 from by decide, show bits BinOp.and IntKind.i64 21 8 = 0 from by decide, show bits BinOp.and IntKind.i64 21 16 = 16 from by decide, show bits BinOp.and IntKind.i64 21 32 = 0 from by decide, show bits BinOp.and IntKind.i64 21 64 = 0 from by decide, if_true, show ¬ ((1 : Int) = 0) from by decide, show ¬ ((2 : Int) = 0) from by decide, show ¬ ((4 : Int) = 0) from by decide, show ¬ ((8 : Int) = 0) from by decide, show ¬ ((16 : Int) = 0) from by decide, show ¬ ((64 : Int) = 0) from by decide, if_false, show ((32 : Int) == 0) = false from by decide, show ((0 : Int) == 0) = true from by decide, Bool.and_true, Bool.and_false] using bare_21 k wk op hn hg nn ng t a u y er w
  · simpa only [zb, zy, show bits BinOp.and IntKind.i64 28 1 = 0 from by decide, show bits BinOp.and IntKind.i64 28 2 = 0 from by decide, show bits BinOp.and IntKind.i64 28 4 = 4 from by decide, show bits BinOp.and IntKind.i64 28 8 = 8 from by decide, show bits BinOp.and IntKind.i64 28 16 = 16 from by decide, show bits BinOp.and IntKind.i64 28 32 = 0 from by decide, show bits BinOp.and IntKind.i64 28 64 = 0 from by decide, if_true, show ¬ ((1 : Int) = 0) from by decide, show ¬ ((2 : Int) = 0) from by decide, show ¬ ((4 : Int) = 0) from by decide, show ¬ ((8 : Int) = 0) from by decide, show ¬ ((16 : Int) = 0) from by decide, show ¬ ((64 : Int) = 0) from by decide, if_false, show ((32 : Int) == 0) = false from by decide, show ((0 : Int) == 0) = true from by decide, Bool.and_true, Bool.and_false] using bare_28 k wk op hn hg nn ng t a u y er w
  · simpa only [zb, zy, show bits BinOp.and IntKind.i64 32 1 = 0 from by decide, show bits BinOp.and IntKind.i64 32 2 = 0 from by decide, show bits BinOp.and IntKind.i64 32 4 = 0 from by decide, show bits BinOp.and IntKind.i64 32 8 = 0 from by decide, show bits BinOp.and IntKind.i64 32 16 = 0 from by decide, show bits BinOp.and IntKind.i64 32 32 = 32 from by decide, show bits BinOp.and IntKind.i64 32 64 = 0 from by decide, if_true, show ¬ ((1 : Int) = 0) from by decide, show ¬ ((2 : Int) = 0) from by decide, show ¬ ((4 : Int) = 0) from by decide, show ¬ ((8 : Int) = 0) from by decide, show ¬ ((16 : Int) = 0) from by decide, show ¬ ((64 : Int) = 0) from by decide, if_false, show ((32 : Int) == 0) = false from by decide, show ((0 : Int) == 0) = true from by decide, Bool.and_true, Bool.and_false] using bare_32 k wk op hn hg nn ng t a u y er w
  · simpa only [zb, zy, show bits BinOp.and IntKind.i64 33 1 = 1 from by decide, show bits BinOp.and IntKind.i64 33 2 = 0 from by decide, show bits BinOp.and IntKind.i64 33 4 = 0 from by decide, show bits BinOp.and IntKind.i64 33 8 = 0 from by decide, show bits BinOp.and IntKind.i64 33 16 = 0 from by decide, show bits BinOp.and IntKind.i64 33 32 = 32 from by decide, show bits BinOp.and IntKind.i64 33 64 = 0 from by decide, if_true, show ¬ ((1 : Int) = 0) from by decide, show ¬ ((2 : Int) = 0) from by decide, show ¬ ((4 : Int) = 0) from by decide, show ¬ ((8 : Int) = 0) from by decide, show ¬ ((16 : Int) = 0) from by decide, show ¬ ((64 : Int) = 0) from by decide, if_false, show ((32 : Int) == 0) = false from by decide, show ((0 : Int) == 0) = true from by decide, Bool.and_true, Bool.and_false] using bare_33 k wk op hn hg nn ng t a u y er w
  · simpa only [zb, zy, show bits BinOp.and IntKind.i64 64 1 = 0 from by decide, show bits BinOp.and IntKind.i64 64 2 = 0 from by decide, show bits BinOp.and IntKind.i64 64 4 = 0 from by decide, show bits BinOp.and IntKind.i64 64 8 = 0 from by decide, show bits BinOp.and IntKind.i64 64 16 = 0 from by decide, show bits BinOp.and IntKind.i64 64 32 = 0 from by decide, show bits BinOp.and IntKind.i64 64 64 = 64 from by decide, if_true, show ¬ ((1 : Int) = 0) from by decide, show ¬ ((2 : Int) = 0) from by decide, show ¬ ((4 : Int) = 0) from by decide, show ¬ ((8 : Int) = 0) from by decide, show ¬ ((16 : Int) = 0) from by decide, show ¬ ((64 : Int) = 0) from by decide, if_false, show ((32 : Int) == 0) = false from by decide, show ((0 : Int) == 0) = true from by decide, Bool.and_true, Bool.and_false] using bare_64 k wk op hn hg nn ng t a u y er w
  · simpa only [zb, zy, show bits BinOp.and IntKind.i64 65 1 = 1 from by decide, show bits BinOp.and IntKind.i64 65 2 = 0 from by decide, show bits BinOp.and IntKind.i64 65 4 = 0 from by decide, show bits BinOp.and IntKind.i64 65 8 = 0 from by decide, show bits BinOp.and IntKind.i64 65 16 = 0 from by decide, show bits BinOp.and IntKind.i64 65 32 = 0 from by decide, show bits BinOp.and IntKind.i64 65 64 = 64 from by decide, if_true, show ¬ ((1 : Int) = 0) from by decide, show ¬ ((2 : Int) = 0) from by decide, show ¬ ((4 : Int) = 0) from by decide, show ¬ ((8 : Int) = 0) from by decide, show ¬ ((16 : Int) = 0) from by decide, show ¬ ((64 : Int) = 0) from by decide, if_false, show ((32 : Int) == 0) = false from by decide, show ((0 : Int) == 0) = true from by decide, Bool.and_true, Bool.and_false] using bare_65 k wk op hn hg nn ng t a u y er w
  · simpa only [zb, zy, show bits BinOp.and IntKind.i64 66 1 = 0 from by decide, show bits BinOp.and IntKind.i64 66 2 = 2 from by decide, show bits BinOp.and IntKind.i64 66 4 = 0 from by decide, show bits BinOp.and IntKind.i64 66 8 = 0 from by decide, show bits BinOp.and IntKind.i64 66 16 = 0 from by decide, show bits BinOp.and IntKind.i64 66 32 = 0 from by decide, show bits BinOp.and IntKind.i64 66 64 = 64 from by decide, if_true, show ¬ ((1 : Int) = 0) from by decide, show ¬ ((2 : Int) = 0) from by decide, show ¬ ((4 : Int) = 0) from by decide, show ¬ ((8 : Int) = 0) from by decide, show ¬ ((16 : Int) = 0) from by decide, show ¬ ((64 : Int) = 0) from by decide, if_false, show ((32 : Int) == 0) = false from by decide, show ((0 : Int) == 0) = true from by decide, Bool.and_true, Bool.and_false] using bare_66 k wk op hn hg nn ng t a u y er w
  · simpa only [zb, zy, show bits BinOp.and IntKind.i64 70 1 = 0 from by decide, show bits BinOp.and IntKind.i64 70 2 = 2 from by decide, show bits BinOp.and IntKind.i64 70 4 = 4 from by decide, show bits BinOp.and IntKind.i64 70 8 = 0 from by decide, show bits BinOp.and IntKind.i64 70 16 = 0 from by decide, show bits BinOp.and IntKind.i64 70 32 = 0 from by decide, show bits BinOp.and IntKind.i64 70 64 = 64 from by decide, if_true, show ¬ ((1 : Int) = 0) from by decide, show ¬ ((2 : Int) = 0) from by decide, show ¬ ((4 : Int) = 0) from by decide, show ¬ ((8 : Int) = 0) from by decide, show ¬ ((16 : Int) = 0) from by decide, show ¬ ((64 : Int) = 0) from by decide, if_false, show ((32 : Int) == 0) = false from by decide, show ((0 : Int) == 0) = true from by decide, Bool.and_true, Bool.and_false] using bare_70 k wk op hn hg nn ng t a u y er w
  · simpa only [zb, zy, show bits BinOp.and IntKind.i64 71 1 = 1 from by decide, show bits BinOp.and IntKind.i64 71 2 = 2 from by decide, show bits BinOp.and IntKind.i64 71 4 = 4 from by decide, show bits BinOp.and IntKind.i64 71 8 = 0 from by decide, show bits BinOp.and IntKind.i64 71 16 = 0 from by decide, show bits BinOp.and IntKind.i64 71 32 = 0 from by decide, show bits BinOp.and IntKind.i64 71 64 = 64 from by decide, if_true, show ¬ ((1 : Int) = 0) from by decide, show ¬ ((2 : Int) = 0) from by decide, show ¬ ((4 : Int) = 0) from by decide, show ¬ ((8 : Int) = 0) from by decide, show ¬ ((16 : Int) = 0) from by decide, show ¬ ((64 : Int) = 0) from by decide, if_false, show ((32 : Int) == 0) = false from by decide, show ((0 : Int) == 0) = true from by decide, Bool.and_true, Bool.and_false] using bare_71 k wk op hn hg nn ng t a u y er w
theorem pick_in (L : List Int) (op : Int) : (pickL L op).1 = 0 ∨ (pickL L op).1 ∈ L := by
  unfold pickL
  split
  · exact .inl rfl
  · right
    simp only [List.getD_eq_getElem?_getD]
    rename_i h
    have : op.toNat < L.length := by omega
    rw [List.getElem?_eq_getElem this]
    exact List.getElem_mem _
theorem fields_in (k wk op er : Int) : (fieldsF k wk op er).1 ∈ fset := by
  unfold fieldsF
  have p2 := pick_in [0, 28, 1, 5, 9, 0, 0, 0] op
  have p3 := pick_in [0, 70, 33, 71, 65] op
  have p5 := pick_in [0, 66, 32, 66, 64, 0, 4, 4] op
  generalize pickL [0, 28, 1, 5, 9, 0, 0, 0] op = q2 at *
  generalize pickL [0, 70, 33, 71, 65] op = q3 at *
  generalize pickL [0, 66, 32, 66, 64, 0, 4, 4] op = q5 at *
  split
  · show (4 : Int) ∈ fset
    decide
  split
  · show (21 : Int) ∈ fset
    decide
  split
  · simp only [List.mem_cons, List.not_mem_nil, or_false] at p2
    rcases p2 with h | h | h | h | h | h | h | h | h <;> rw [h] <;> decide
  split
  · simp only [List.mem_cons, List.not_mem_nil, or_false] at p3
    rcases p3 with h | h | h | h | h | h <;> rw [h] <;> split <;> dsimp only <;> decide
  split
  · simp only [List.mem_cons, List.not_mem_nil, or_false] at p5
    rcases p5 with h | h | h | h | h | h | h | h | h <;> rw [h] <;> split <;> dsimp only <;> decide
  · decide
theorem eqHa (d : Nat) (w : World) (x0 y0 : Int) (x1 y1 : Int) :
    (Op.equalIn (d + 2) 34 (.agg #[.int .i64 x0, .int .i64 x1]) (.agg #[.int .i64 y0, .int .i64 y1])).run Try.prog w = .ok (x0 == y0 && (x1 == y1)) w := by
  refine eqA_of Try.underlying34 (by kernel_rfl) ?_
  refine eqf_cons (by rfl) (by go_simp; rfl) (by go_simp; rfl) (by go_simp) ?_
  exact eqf_last (by rfl) (by go_simp; rfl) (by go_simp; rfl) (by go_simp)
theorem eqEv (d : Nat) (w : World) (x0 y0 : Int) (x1 y1 : Int) (x2 y2 : Int) (x3 y3 : Int) (x4 y4 : Int) (x5 y5 : Int) (x6 y6 : Int) (x7 y7 : Int) (x8 y8 : Int) (x9 y9 : Int) (x10 y10 : Bool) (x11 y11 : Int) :
    (Op.equalIn (d + 3) 54 (.agg #[.int .i64 x0, .int .i64 x1, .int .i64 x2, .int .i64 x3, .int .i64 x4, .int .i64 x5, .int .i64 x6, .int .i64 x7, .int .i64 x8, .int .i64 x9, .bool x10, .int .i64 x11]) (.agg #[.int .i64 y0, .int .i64 y1, .int .i64 y2, .int .i64 y3, .int .i64 y4, .int .i64 y5, .int .i64 y6, .int .i64 y7, .int .i64 y8, .int .i64 y9, .bool y10, .int .i64 y11])).run Try.prog w = .ok (x0 == y0 && (x1 == y1 && (x2 == y2 && ((x3 == y3 && (x4 == y4)) && ((x5 == y5 && (x6 == y6)) && (x7 == y7 && (x8 == y8 && (x9 == y9 && (x10 == y10 && (x11 == y11)))))))))) w := by
  refine eqA_of Try.underlying54 (by kernel_rfl) ?_
  refine eqf_cons (by rfl) (by go_simp; rfl) (by go_simp; rfl) (by go_simp) ?_
  refine eqf_cons (by rfl) (by go_simp; rfl) (by go_simp; rfl) (by go_simp) ?_
  refine eqf_cons (by rfl) (by go_simp; rfl) (by go_simp; rfl) (by go_simp) ?_
  refine eqf_cons (by rfl) (by go_simp) (by go_simp) (eqHa (d + 0) w _ _ _ _) ?_
  refine eqf_cons (by rfl) (by go_simp) (by go_simp) (eqHa (d + 0) w _ _ _ _) ?_
  refine eqf_cons (by rfl) (by go_simp; rfl) (by go_simp; rfl) (by go_simp) ?_
  refine eqf_cons (by rfl) (by go_simp; rfl) (by go_simp; rfl) (by go_simp) ?_
  refine eqf_cons (by rfl) (by go_simp; rfl) (by go_simp; rfl) (by go_simp) ?_
  refine eqf_cons (by rfl) (by go_simp; rfl) (by go_simp; rfl) (by go_simp) ?_
  exact eqf_last (by rfl) (by go_simp; rfl) (by go_simp; rfl) (by go_simp)
end Go.Proofs.Ythniclbmpeklmaa.Ev
end
section
namespace Go.Proofs.Ythniclbmpeklmaa.Ev
open Go.RowKit Go.Proofs.YthniclbmpeklmaaW.PrintWords Go.Proofs.YthniclbmpeklmaaW.PrintLast Go.Proofs.YthniclbmpeklmaaW.PrintMore
set_option linter.unusedVariables false
set_option linter.unusedSimpArgs false
theorem dlt {x : Int} (h : 0 ≤ x) : decide (x < 0) = false := decide_eq_false (by omega)
attribute [local go_sem high] eqEv eqHa
set_option maxHeartbeats 4000000 in
set_option maxRecDepth 100000 in
theorem right_walk (k wk op hn hg nn ng t a u : Int) (y : Bool) (er : Int) (f : Int) (ok q : Bool) (x1 x2 x3 x4 x5 x6 x7 : Int) (x8 : Bool) (x9 : Int)
    (CF : Aside0 (∀ W, Calls Try.prog 92 #[.agg (evC k wk op hn hg nn ng t a u y er)] W fun e w' => e = .returned (.tuple #[.int .i64 f, .bool ok]) ∧ Below W.heap.size W w'))
    (CC : Aside0 (∀ W, Calls Try.prog 93 #[.agg (evC k wk op hn hg nn ng t a u y er)] W fun e w' => e = .returned (.bool q) ∧ Below W.heap.size W w'))
    (CB : Aside0 (∀ W, Calls Try.prog 94 #[.agg (evC k wk op hn hg nn ng t a u y er), .int .i64 f] W fun e w' => e = .returned (.agg (evC k wk op x1 x2 x3 x4 x5 x6 x7 x8 x9)) ∧ Below W.heap.size W w')) (w : World) :
    Calls Try.prog 65 #[.agg (evC k wk op hn hg nn ng t a u y er)] w fun e w' => e = .returned (.bool (ok && (!decide (wk < 0) && (!decide (er < 0) && ((k == 2) || q))) && (x1 == 0 && x2 == 0 && x3 == 0 && x4 == 0 && x5 == 0 && x6 == 0 && x7 == 0 && !x8 && x9 == 0))) ∧ Below w.heap.size w w' := by
  have hu := Try.underlying54
  have hu2 := Try.underlying34
  by_cases k2 : k = 2
  · subst k2
    have HB := Aside0.mk (below_alloc (Below.refl w.heap.size w) (.cells (evC 2 wk op hn hg nn ng t a u y er) 54))
    have HO := Aside0.mk (heap_alloc_new w (.cells (evC 2 wk op hn hg nn ng t a u y er) 54))
    go_enter Try.func65, Try.ntmps65
    go_wp2_with (first | (go_at_call 92; (with_reducible refine (CF.out _).mono ?_); rintro e w1 ⟨rfl, hb⟩; have n0 := Aside0.mk (below_step HB.out hb); have n1 := Aside0.mk ((hb.block _ (by simp)).trans HO.out); clear HB HO hb; have HB := n0; have HO := n1; clear n0 n1; have hc := fun i => blk_cell HO.out i; have hz := Aside0.mk (blk_lt HO.out)) | (go_at_call 93; (with_reducible refine (CC.out _).mono ?_); rintro e w1 ⟨rfl, hb⟩; have n0 := Aside0.mk (below_step HB.out hb); have n1 := Aside0.mk ((hb.block _ hz.out).trans HO.out); clear hc; clear HB HO hb; have HB := n0; have HO := n1; clear n0 n1; have hc := fun i => blk_cell HO.out i))
    all_goals first
      | (go_ret; exact ⟨by first | (simp [*, Bool.and_assoc, dlt]; done) | (simp_all [Bool.and_assoc, dlt]; done) | (simp [*, Bool.and_assoc, dlt]; rename_i h9; intro hq; exfalso; rcases h9 with (h9 | h9) | h9; omega; omega; (rw [hq] at h9; cases h9)), HB.out⟩)
      | (go_region_held3 (fun w' => ∀ i, w'.cell? ⟨w.heap.size, i, none⟩ = (evC 2 wk op hn hg nn ng t a u y er)[i]?) ((intro i; exact blk_cell HO.out i)) ((go_at_call 94; (with_reducible refine (CB.out _).mono ?_); rintro e w2 ⟨rfl, hb⟩; have n0 := Aside0.mk (below_step (Below.drew HB.out) hb); have n1 := Aside0.mk ((hb.block _ (by exact blk_lt HO.out)).trans (by exact HO.out)); clear hc; clear HB HO hb; have HB := n0; have HO := n1; clear n0 n1))
         go_wp2
         go_ret
         exact ⟨by first | (simp [*, Bool.and_assoc, dlt]; done) | (simp_all [Bool.and_assoc, dlt]; done) | (simp [*, Bool.and_assoc, dlt]; rename_i h9; intro hq; exfalso; rcases h9 with (h9 | h9) | h9; omega; omega; (rw [hq] at h9; cases h9)), HB.out⟩)
  · have b2 : (k == 2) = false := beq_eq_false_iff_ne.2 k2
    have b2' : (k != 2) = true := bne_iff_ne.2 k2
    clear k2
    have HB := Aside0.mk (below_alloc (Below.refl w.heap.size w) (.cells (evC k wk op hn hg nn ng t a u y er) 54))
    have HO := Aside0.mk (heap_alloc_new w (.cells (evC k wk op hn hg nn ng t a u y er) 54))
    go_enter Try.func65, Try.ntmps65
    go_wp2_with (first | (go_at_call 92; (with_reducible refine (CF.out _).mono ?_); rintro e w1 ⟨rfl, hb⟩; have n0 := Aside0.mk (below_step HB.out hb); have n1 := Aside0.mk ((hb.block _ (by simp)).trans HO.out); clear HB HO hb; have HB := n0; have HO := n1; clear n0 n1; have hc := fun i => blk_cell HO.out i; have hz := Aside0.mk (blk_lt HO.out)) | (go_at_call 93; (with_reducible refine (CC.out _).mono ?_); rintro e w1 ⟨rfl, hb⟩; have n0 := Aside0.mk (below_step HB.out hb); have n1 := Aside0.mk ((hb.block _ hz.out).trans HO.out); clear hc; clear HB HO hb; have HB := n0; have HO := n1; clear n0 n1; have hc := fun i => blk_cell HO.out i))
    all_goals first
      | (go_ret; exact ⟨by first | (simp [*, Bool.and_assoc, dlt]; done) | (simp_all [Bool.and_assoc, dlt]; done) | (simp [*, Bool.and_assoc, dlt]; rename_i h9; intro hq; exfalso; rcases h9 with (h9 | h9) | h9; omega; omega; (rw [hq] at h9; cases h9)), HB.out⟩)
      | (go_region_held3 (fun w' => ∀ i, w'.cell? ⟨w.heap.size, i, none⟩ = (evC k wk op hn hg nn ng t a u y er)[i]?) ((intro i; exact blk_cell HO.out i)) ((go_at_call 94; (with_reducible refine (CB.out _).mono ?_); rintro e w2 ⟨rfl, hb⟩; have n0 := Aside0.mk (below_step (Below.drew HB.out) hb); have n1 := Aside0.mk ((hb.block _ (by exact blk_lt HO.out)).trans (by exact HO.out)); clear hc; clear HB HO hb; have HB := n0; have HO := n1; clear n0 n1))
         go_wp2
         go_ret
         exact ⟨by first | (simp [*, Bool.and_assoc, dlt]; done) | (simp_all [Bool.and_assoc, dlt]; done) | (simp [*, Bool.and_assoc, dlt]; rename_i h9; intro hq; exfalso; rcases h9 with (h9 | h9) | h9; omega; omega; (rw [hq] at h9; cases h9)), HB.out⟩)
/-- What the program's function tells, in its own words. -/
def rightP (k wk op hn hg nn ng t a u : Int) (y : Bool) (er : Int) : Bool :=
  ((fieldsF k wk op er).2 && (!decide (wk < 0) && (!decide (er < 0) && ((k == 2) || countedB k hn hg nn ng t a u))) && (zb (fieldsF k wk op er).1 1 hn == 0 && zb (fieldsF k wk op er).1 1 hg == 0 && zb (fieldsF k wk op er).1 2 nn == 0 && zb (fieldsF k wk op er).1 2 ng == 0 && zb (fieldsF k wk op er).1 4 t == 0 && zb (fieldsF k wk op er).1 8 a == 0 && zb (fieldsF k wk op er).1 16 u == 0 && !zy (fieldsF k wk op er).1 y && zb (fieldsF k wk op er).1 64 er == 0))
theorem ev_right_any (k wk op hn hg nn ng t a u : Int) (y : Bool) (er : Int) (w : World) :
    Calls Try.prog 65 #[.agg (evC k wk op hn hg nn ng t a u y er)] w fun e w' => e = .returned (.bool (rightP k wk op hn hg nn ng t a u y er)) ∧ Below w.heap.size w w' :=
  right_walk k wk op hn hg nn ng t a u y er _ _ _ _ _ _ _ _ _ _ _ _ ⟨fun W => fields_any k wk op hn hg nn ng t a u y er W⟩ ⟨fun W => counted_any k wk op hn hg nn ng t a u y er W⟩ ⟨fun W => bare_any k wk op hn hg nn ng t a u y er _ (fields_in k wk op er) W⟩ w
end Go.Proofs.Ythniclbmpeklmaa.Ev
end
section
namespace Go.Proofs.Ythniclbmpeklmaa.Ev
open Go.RowKit
set_option linter.unusedVariables false
set_option linter.unusedSimpArgs false
set_option maxHeartbeats 4000000
theorem right_no (k wk op hn hg nn ng t a u : Int) (y : Bool) (er : Int) (h1 : (fieldsF k wk op er).2 = false) (h2 : kindB k wk op = false) : rightP k wk op hn hg nn ng t a u y er = evRight k wk op hn hg nn ng t a u y er := by
  rw [rightP, evRight, h1, h2]
  rfl
theorem pick_in1 {L : List Int} {op : Int} (h : op < 1 ∨ (L.length : Int) ≤ op) : pickL L op = (0, false) := if_pos h
theorem right_eq (k wk op hn hg nn ng t a u : Int) (y : Bool) (er : Int) : rightP k wk op hn hg nn ng t a u y er = evRight k wk op hn hg nn ng t a u y er := by
  by_cases k1 : k = 1
  · subst k1
    cases y <;> (rw [Bool.eq_iff_iff]; simp (decide := true) [rightP, evRight, fieldsF, pickL, kindB, emptyB, hasH, hasN, hasT, hasA, hasU, hasY, hasE, in3, made, countedB, zb, zy, *] <;> omega)
  by_cases k4 : k = 4
  · subst k4
    cases y <;> (rw [Bool.eq_iff_iff]; simp (decide := true) [rightP, evRight, fieldsF, pickL, kindB, emptyB, hasH, hasN, hasT, hasA, hasU, hasY, hasE, in3, made, countedB, zb, zy, *] <;> omega)
  by_cases k2 : k = 2
  · subst k2
    by_cases h : op < 1 ∨ (8 : Int) ≤ op
    · apply right_no
      · rw [fieldsF, if_neg (by decide), if_neg (by decide), if_pos rfl, pick_in1 h]
      · rw [Bool.eq_false_iff]
        simp [kindB]
        omega
    · obtain rfl | rfl | rfl | rfl | rfl | rfl | rfl : op = 1 ∨ op = 2 ∨ op = 3 ∨ op = 4 ∨ op = 5 ∨ op = 6 ∨ op = 7 := by omega
      all_goals (cases y <;> (rw [Bool.eq_iff_iff]; simp (decide := true) [rightP, evRight, fieldsF, pickL, kindB, emptyB, hasH, hasN, hasT, hasA, hasU, hasY, hasE, in3, made, countedB, zb, zy, *] <;> omega))
  by_cases k3 : k = 3
  · subst k3
    by_cases h : op < 1 ∨ (5 : Int) ≤ op
    · apply right_no
      · rw [fieldsF, if_neg (by decide), if_neg (by decide), if_neg (by decide), if_pos rfl, pick_in1 h]
      · rw [Bool.eq_false_iff]
        simp [kindB]
        omega
    · by_cases he : er = 0
      · subst he
        obtain rfl | rfl | rfl | rfl : op = 1 ∨ op = 2 ∨ op = 3 ∨ op = 4 := by omega
        all_goals (cases y <;> (rw [Bool.eq_iff_iff]; simp (decide := true) [rightP, evRight, fieldsF, pickL, kindB, emptyB, hasH, hasN, hasT, hasA, hasU, hasY, hasE, in3, made, countedB, zb, zy, *] <;> omega))
      · obtain rfl | rfl | rfl | rfl : op = 1 ∨ op = 2 ∨ op = 3 ∨ op = 4 := by omega
        all_goals (cases y <;> (rw [Bool.eq_iff_iff]; simp (decide := true) [rightP, evRight, fieldsF, pickL, kindB, emptyB, hasH, hasN, hasT, hasA, hasU, hasY, hasE, in3, made, countedB, zb, zy, *] <;> omega))
  by_cases k5 : k = 5
  · subst k5
    by_cases h : op < 1 ∨ (8 : Int) ≤ op
    · apply right_no
      · rw [fieldsF, if_neg (by decide), if_neg (by decide), if_neg (by decide), if_neg (by decide), if_pos rfl, pick_in1 h]
      · rw [Bool.eq_false_iff]
        simp [kindB]
        omega
    · by_cases he : er = 0
      · subst he
        obtain rfl | rfl | rfl | rfl | rfl | rfl | rfl : op = 1 ∨ op = 2 ∨ op = 3 ∨ op = 4 ∨ op = 5 ∨ op = 6 ∨ op = 7 := by omega
        all_goals (cases y <;> (rw [Bool.eq_iff_iff]; simp (decide := true) [rightP, evRight, fieldsF, pickL, kindB, emptyB, hasH, hasN, hasT, hasA, hasU, hasY, hasE, in3, made, countedB, zb, zy, *] <;> omega))
      · obtain rfl | rfl | rfl | rfl | rfl | rfl | rfl : op = 1 ∨ op = 2 ∨ op = 3 ∨ op = 4 ∨ op = 5 ∨ op = 6 ∨ op = 7 := by omega
        all_goals (cases y <;> (rw [Bool.eq_iff_iff]; simp (decide := true) [rightP, evRight, fieldsF, pickL, kindB, emptyB, hasH, hasN, hasT, hasA, hasU, hasY, hasE, in3, made, countedB, zb, zy, *] <;> omega))
  apply right_no
  · rw [fieldsF, if_neg k1, if_neg k4, if_neg k2, if_neg k3, if_neg k5]
  · rw [Bool.eq_false_iff]
    simp [kindB]
    omega
/-- Whether an event is right, as the program tells it: the reference's own answer. -/
theorem event_right (k wk op hn hg nn ng t a u : Int) (y : Bool) (er : Int) (w : World) :
    Calls Try.prog 65 #[.agg (evC k wk op hn hg nn ng t a u y er)] w fun e w' => e = .returned (.bool (evRight k wk op hn hg nn ng t a u y er)) ∧ Below w.heap.size w w' := by
  rw [← right_eq]
  exact ev_right_any k wk op hn hg nn ng t a u y er w
end Go.Proofs.Ythniclbmpeklmaa.Ev
end
section
namespace Go.Proofs.Ythniclbmpeklmaa.Ju
open Go.RowKit Go.Maps Go.Proofs.YthniclbmpeklmaaW.PrintWords Go.Proofs.YthniclbmpeklmaaW.PrintLast Go.Proofs.YthniclbmpeklmaaW.PrintMore Go.Proofs.Ythniclbmpeklmaa.Mp Go.Proofs.Ythniclbmpeklmaa.Au
set_option linter.unusedVariables false
set_option linter.unusedSimpArgs false
/-- Unless something isn't so. -/
def unF (c : Bool) (m' m : Md) : Md × Int := if c = true then (m', 0) else (m, 6)
theorem end_new (b : Nat) (x y s : Int) (w : World) : Calls Try.prog 75 #[pA b, .agg #[.int .i64 x, .int .i64 y], .int .i64 s] w fun r w' => ∃ sb xb hb, r = .returned (.func (.func 99) #[] #[pA sb, pA xb, pA hb]) ∧ (w'.heap[sb]? = some (.cells #[.int .i64 s] 3 (0, 0)) ∧ w'.heap[xb]? = some (.cells #[pA b] 58 (0, 0)) ∧ w'.heap[hb]? = some (.cells #[.int .i64 x, .int .i64 y] 34 (0, 0))) ∧ Below w.heap.size w w' :=
  (end_any b x y s w).mono fun r w' ⟨h1, h2⟩ => ⟨_, _, _, h1, by
    subst h2
    exact ⟨by have q := blk_new ((w.alloc (.cells #[pA b] 58)).alloc (.cells #[.int .i64 x, .int .i64 y] 34)) (.cells #[.int .i64 s] 3); rw [show ((w.alloc (.cells #[pA b] 58)).alloc (.cells #[.int .i64 x, .int .i64 y] 34)).heap.size = w.heap.size + 1 + 1 by simp] at q; exact q,
      blk_alloc (blk_alloc (blk_new _ _) _) _, blk_alloc (by have q := blk_new (w.alloc (.cells #[pA b] 58)) (.cells #[.int .i64 x, .int .i64 y] 34); rw [show (w.alloc (.cells #[pA b] 58)).heap.size = w.heap.size + 1 by simp] at q; exact q) _⟩, by
    subst h2
    exact below_alloc (below_alloc (below_alloc (Below.refl _ _) _) _) _⟩
section
variable {w W W1 : World} {B b n m1 m2 eb xb sb hb : Nat} {m m' : Md} {e : Ev}
theorem un_no (fn : Fn) (first cap : Array Value) (h : MdIs W B b n m m1 m2) (k : Nat) : Calls Try.prog 73 #[.bool false, .func fn first cap] W fun r w' => r = .returned (.int .i64 (unF false m' m).2) ∧ MdIs w' B b (n + k) (unF false m' m).1 m1 m2 ∧ Fr W w' (mdS b m1 m2) :=
  (unless_no fn first cap W).mono fun r w' ⟨h1, h2⟩ => ⟨h1, by rw [h2]; exact h.up (by omega), by rw [h2]; exact Fr.refl _ _⟩
theorem un_nothing (c : Bool) (h : MdIs W B b n m m1 m2) : Calls Try.prog 73 #[.bool c, .func (.func 100) #[] #[]] W fun r w' => r = .returned (.int .i64 (unF c m m).2) ∧ MdIs w' B b (n + 3) (unF c m m).1 m1 m2 ∧ Fr W w' (mdS b m1 m2) := by
  cases c with
  | false => exact un_no _ _ _ h 3
  | true => exact (unless_nothing #[] W (fun w' => w' = W) (model_nothing W)).mono fun r w' ⟨h1, h2⟩ => ⟨h1, by rw [h2]; exact h.up (by omega), by rw [h2]; exact Fr.refl _ _⟩
theorem un_tick (c : Bool) (h : MdIs W B b n m m1 m2) (he : W.heap[eb]? = some (.cells (evA e) 54 (0, 0))) (hx : W.heap[xb]? = some (.cells #[pA b] 58 (0, 0))) : Calls Try.prog 73 #[.bool c, .func (.func 74) #[] #[pA eb, pA xb]] W fun r w' => r = .returned (.int .i64 (unF c { m with clk := e.t } m).2) ∧ MdIs w' B b (n + 3) (unF c { m with clk := e.t } m).1 m1 m2 ∧ Fr W w' (mdS b m1 m2) := by
  cases c with
  | false => exact un_no _ _ _ h 3
  | true => exact (unless_tick #[pA eb, pA xb] W _ (tick_any e h he hx)).mono fun r w' ⟨h1, h2⟩ => ⟨h1, h2.1.up (by omega), h2.2⟩
theorem un_end (c : Bool) (s x y : Int) (hn : n ≤ 1000000) (hx : (Lit.int .i64 x).wf = true) (hy : (Lit.int .i64 y).wf = true) (h : MdIs W B b n m m1 m2) (hb3 : W.heap[sb]? = some (.cells #[.int .i64 s] 3 (0, 0)) ∧ W.heap[xb]? = some (.cells #[pA b] 58 (0, 0)) ∧ W.heap[hb]? = some (.cells #[.int .i64 x, .int .i64 y] 34 (0, 0))) :
    Calls Try.prog 73 #[.bool c, .func (.func 99) #[] #[pA sb, pA xb, pA hb]] W fun r w' => r = .returned (.int .i64 (unF c (m.end_ (x, y) s) m).2) ∧ MdIs w' B b (n + 3) (unF c (m.end_ (x, y) s) m).1 m1 m2 ∧ Fr W w' (mdS b m1 m2) := by
  cases c with
  | false => exact un_no _ _ _ h 3
  | true => exact (unless_end #[pA sb, pA xb, pA hb] W _ (end1_any s x y hn hx hy h hb3.1 hb3.2.1 hb3.2.2)).mono fun r w' ⟨h1, h2⟩ => ⟨h1, h2.1.up (by omega), h2.2⟩
theorem un_start (c : Bool) (hn : n ≤ 1000000) (hx : (Lit.int .i64 e.nn).wf = true) (hy : (Lit.int .i64 e.ng).wf = true) (h : MdIs W B b n m m1 m2) (he : W.heap[eb]? = some (.cells (evA e) 54 (0, 0))) (hxb : W.heap[xb]? = some (.cells #[pA b] 58 (0, 0))) :
    Calls Try.prog 73 #[.bool c, .func (.func 101) #[] #[pA xb, pA eb]] W fun r w' => r = .returned (.int .i64 (unF c (m.arm e.new e.t) m).2) ∧ MdIs w' B b (n + 3) (unF c (m.arm e.new e.t) m).1 m1 m2 ∧ Fr W w' (mdS b m1 m2) := by
  cases c with
  | false => exact un_no _ _ _ h 3
  | true => exact (unless_start #[pA xb, pA eb] W _ (start1_any e hn hx hy h he hxb)).mono fun r w' ⟨h1, h2⟩ => ⟨h1, h2.1.up (by omega), h2.2⟩
theorem un_rearm (c : Bool) (hn : n + 1 ≤ 1000000) (hx : (Lit.int .i64 e.nn).wf = true) (hy : (Lit.int .i64 e.ng).wf = true) (hx' : (Lit.int .i64 e.hn).wf = true) (hy' : (Lit.int .i64 e.hg).wf = true) (h : MdIs W B b n m m1 m2) (he : W.heap[eb]? = some (.cells (evA e) 54 (0, 0))) (hxb : W.heap[xb]? = some (.cells #[pA b] 58 (0, 0))) :
    Calls Try.prog 73 #[.bool c, .func (.func 103) #[] #[pA xb, pA eb]] W fun r w' => r = .returned (.int .i64 (unF c ((m.end_ e.h 4).arm e.new e.t) m).2) ∧ MdIs w' B b (n + 3) (unF c ((m.end_ e.h 4).arm e.new e.t) m).1 m1 m2 ∧ Fr W w' (mdS b m1 m2) := by
  cases c with
  | false => exact un_no _ _ _ h 3
  | true => exact (unless_rearm #[pA xb, pA eb] W _ (rearm1_any e hn hx hy hx' hy' h he hxb)).mono fun r w' ⟨h1, h2⟩ => ⟨h1, h2⟩
end
/-- What a walk over a model stands on: the model, the boxes of its pointer and of the event. -/
structure Dj (w W : World) (B b n m1 m2 : Nat) (m : Md) (e : Ev) : Prop where
  md : MdIs W B b n m m1 m2
  xb : W.heap[w.heap.size]? = some (.cells #[pA b] 58 (0, 0))
  eb : W.heap[w.heap.size + 1]? = some (.cells (evA e) 54 (0, 0))
  fr : Fr w W (mdS b m1 m2)
section
variable {w W W1 : World} {B b n m1 m2 : Nat} {m : Md} {e : Ev}
theorem Dj.start (h : MdIs w B b n m m1 m2) (e : Ev) : Dj w ((w.alloc (.cells #[pA b] 58)).alloc (.cells (evA e) 54)) B b n m1 m2 m e :=
  ⟨(h.alloc _).alloc _, blk_alloc (blk_new _ _) _, by have q := blk_new (w.alloc (.cells #[pA b] 58)) (.cells (evA e) 54); rw [show (w.alloc (.cells #[pA b] 58)).heap.size = w.heap.size + 1 by simp] at q; exact q, ((Fr.refl _ _).alloc _).alloc _⟩
theorem Dj.step (h : Dj w W B b n m1 m2 m e) (hb : Below W.heap.size W W1) : Dj w W1 B b n m1 m2 m e := ⟨h.md.below hb, blk_below h.xb hb, blk_below h.eb hb, h.fr.trans (Fr.of_below hb _)⟩
theorem Dj.alloc (h : Dj w W B b n m1 m2 m e) (o : Obj) : Dj w (W.alloc o) B b n m1 m2 m e := h.step (below_alloc (Below.refl _ _) o)
theorem Dj.drew (h : Dj w W B b n m1 m2 m e) : Dj w W.drew B b n m1 m2 m e := ⟨h.md.drew, h.xb, h.eb, h.fr.drew⟩
theorem Dj.drewN (h : Dj w W B b n m1 m2 m e) (q : Nat) : Dj w (W.drewN q) B b n m1 m2 m e := ⟨h.md.drewN q, h.xb, h.eb, h.fr.drewN q⟩
theorem Dj.cells (h : Dj w W B b n m1 m2 m e) : (∀ i, W.cell? ⟨b, i, none⟩ = (mdA m m1 m2)[i]?) ∧ (∀ i, W.cell? ⟨w.heap.size, i, none⟩ = (#[pA b] : Array Value)[i]?) ∧ (∀ i, W.cell? ⟨w.heap.size + 1, i, none⟩ = (evA e)[i]?) := ⟨fun i => h.md.cell i, fun i => blk_cell h.xb i, fun i => blk_cell h.eb i⟩
end
/-- What a model's function leaves. -/
def DoPost (w : World) (B b n m1 m2 : Nat) (p : Md × Int) (r : Ending) (w' : World) : Prop := r = .returned (.int .i64 p.2) ∧ MdIs w' B b (n + 3) p.1 m1 m2 ∧ Fr w w' (mdS b m1 m2)
theorem DoPost.of {w W : World} {B b n m1 m2 : Nat} {p q : Md × Int} (h : p = q) {v : Int} (hv : v = q.2) (hm : MdIs W B b (n + 3) q.1 m1 m2) (hf : Fr w W (mdS b m1 m2)) : DoPost w B b n m1 m2 p (.returned (.int .i64 v)) W := by
  subst h
  subst hv
  exact ⟨rfl, hm, hf⟩
set_option maxHeartbeats 4000000 in
set_option maxRecDepth 100000 in
theorem point_cancel {w : World} {B b n m1 m2 : Nat} {m : Md} (e : Ev) (hw : (Lit.int .i64 e.hn).wf = true ∧ (Lit.int .i64 e.hg).wf = true ∧ (Lit.int .i64 e.nn).wf = true ∧ (Lit.int .i64 e.ng).wf = true) (hn : n + 1 ≤ 1000000) (h : MdIs w B b n m m1 m2) (ho : e.op = 2) (hy : e.y = true) :
    Calls Try.prog 76 #[pA b, .agg (evA e), .bool (m.st e.h == 1)] w (DoPost w B b n m1 m2 (pointF m e)) := by
  have hu0 := Try.underlying125
  have hu1 := Try.underlying34
  have hu2 := Try.underlying54
  have hmf : ∀ (fn : Fn) (first cap : Array Value) (w : World), (Instr.makeFunc fn first cap).run Try.prog w = .ok (.func fn first cap) w := fun _ _ _ _ => rfl
  have HF := Aside0.mk (show pointF m e = unF (m.st e.h == 1) (m.end_ e.h 3) m by unfold pointF; rw [if_pos ⟨ho, hy⟩]; unfold unF; by_cases ha : m.st e.h = 1 <;> simp [ha])
  have q0 : (e.op == 2) = true := beq_iff_eq.2 (ho)
  have r0 : (e.op != 2) = false := bne_eq_false_iff_eq.2 (ho)
  have y0 := hy
  have HW := Aside0.mk hw
  have HN := Aside0.mk hn
  have HJ := Aside0.mk (Dj.start h e)
  have CE := Aside0.mk (fun W => end_new b e.hn e.hg 3 W)
  obtain ⟨am, ham⟩ : ∃ am, (m.st e.h == 1) = am := ⟨_, rfl⟩
  (try rw [ham] at HF); rw [ham]
  clear ham hw hn h ho hy
  go_enter Try.func76, Try.ntmps76
  go_wp2_with (first | (go_at_call 75; (with_reducible refine (CE.out _).mono ?_); rintro r w2 ⟨sb, xb, hb, rfl, h3, hb2⟩; have HE2 := Aside0.mk (And.intro h3 (HJ.out.step hb2)); clear h3 hb2) | (go_at_call 73; (with_reducible refine (un_end am 3 e.hn e.hg (by have := HN.out; omega) HW.out.1 HW.out.2.1 HE2.out.2.md HE2.out.1).mono ?_); rintro r w4 ⟨rfl, hm, hf⟩; have HM := Aside0.mk (And.intro hm (HE2.out.2.fr.trans hf)); clear hm hf))
  go_ret
  exact DoPost.of HF.out rfl HM.out.1 HM.out.2
set_option maxHeartbeats 4000000 in
set_option maxRecDepth 100000 in
theorem point_cancel_no {w : World} {B b n m1 m2 : Nat} {m : Md} (e : Ev) (hw : (Lit.int .i64 e.hn).wf = true ∧ (Lit.int .i64 e.hg).wf = true ∧ (Lit.int .i64 e.nn).wf = true ∧ (Lit.int .i64 e.ng).wf = true) (hn : n + 1 ≤ 1000000) (h : MdIs w B b n m m1 m2) (ho : e.op = 2) (hy : e.y = false) :
    Calls Try.prog 76 #[pA b, .agg (evA e), .bool (m.st e.h == 1)] w (DoPost w B b n m1 m2 (pointF m e)) := by
  have hu0 := Try.underlying125
  have hu1 := Try.underlying34
  have hu2 := Try.underlying54
  have hmf : ∀ (fn : Fn) (first cap : Array Value) (w : World), (Instr.makeFunc fn first cap).run Try.prog w = .ok (.func fn first cap) w := fun _ _ _ _ => rfl
  have HF := Aside0.mk (show pointF m e = unF (!(m.st e.h == 1)) m m by unfold pointF; rw [if_neg (by rw [hy]; simp), if_pos (.inl ho)]; unfold unF; by_cases ha : m.st e.h = 1 <;> simp [ha])
  have q0 : (e.op == 2) = true := beq_iff_eq.2 (ho)
  have r0 : (e.op != 2) = false := bne_eq_false_iff_eq.2 (ho)
  have y0 := hy
  have HW := Aside0.mk hw
  have HN := Aside0.mk hn
  have HJ := Aside0.mk (Dj.start h e)
  obtain ⟨am, ham⟩ : ∃ am, (m.st e.h == 1) = am := ⟨_, rfl⟩
  (try rw [ham] at HF); rw [ham]
  clear ham hw hn h ho hy
  go_enter Try.func76, Try.ntmps76
  go_wp2_with (first | (go_at_call 73; (with_reducible refine (un_nothing (!am) HJ.out.md).mono ?_); rintro r w4 ⟨rfl, hm, hf⟩; have HM := Aside0.mk (And.intro hm (HJ.out.fr.trans hf)); clear hm hf))
  go_ret
  exact DoPost.of HF.out rfl HM.out.1 HM.out.2
set_option maxHeartbeats 4000000 in
set_option maxRecDepth 100000 in
theorem point_stale {w : World} {B b n m1 m2 : Nat} {m : Md} (e : Ev) (hw : (Lit.int .i64 e.hn).wf = true ∧ (Lit.int .i64 e.hg).wf = true ∧ (Lit.int .i64 e.nn).wf = true ∧ (Lit.int .i64 e.ng).wf = true) (hn : n + 1 ≤ 1000000) (h : MdIs w B b n m m1 m2) (n2 : ¬ e.op = 2) (n1 : ¬ e.op = 1) (h4 : e.er = 4) :
    Calls Try.prog 76 #[pA b, .agg (evA e), .bool (m.st e.h == 1)] w (DoPost w B b n m1 m2 (pointF m e)) := by
  have hu0 := Try.underlying125
  have hu1 := Try.underlying34
  have hu2 := Try.underlying54
  have hmf : ∀ (fn : Fn) (first cap : Array Value) (w : World), (Instr.makeFunc fn first cap).run Try.prog w = .ok (.func fn first cap) w := fun _ _ _ _ => rfl
  have HF := Aside0.mk (show pointF m e = unF (!(m.st e.h == 1)) m m by unfold pointF; rw [if_neg (fun q => n2 q.1), if_pos (.inr ⟨h4, n1⟩)]; unfold unF; by_cases ha : m.st e.h = 1 <;> simp [ha])
  have q0 : (e.op == 2) = false := beq_eq_false_iff_ne.2 (n2)
  have r0 : (e.op != 2) = true := bne_iff_ne.2 (n2)
  have q1 : (e.op == 1) = false := beq_eq_false_iff_ne.2 (n1)
  have r1 : (e.op != 1) = true := bne_iff_ne.2 (n1)
  have q4 : (e.er == 4) = true := beq_iff_eq.2 (h4)
  have r4 : (e.er != 4) = false := bne_eq_false_iff_eq.2 (h4)
  have HW := Aside0.mk hw
  have HN := Aside0.mk hn
  have HJ := Aside0.mk (Dj.start h e)
  obtain ⟨am, ham⟩ : ∃ am, (m.st e.h == 1) = am := ⟨_, rfl⟩
  (try rw [ham] at HF); rw [ham]
  clear ham hw hn h n2 n1 h4
  go_enter Try.func76, Try.ntmps76
  go_wp2_with (first | (go_at_call 73; (with_reducible refine (un_nothing (!am) HJ.out.md).mono ?_); rintro r w4 ⟨rfl, hm, hf⟩; have HM := Aside0.mk (And.intro hm (HJ.out.fr.trans hf)); clear hm hf))
  go_ret
  exact DoPost.of HF.out rfl HM.out.1 HM.out.2
set_option maxHeartbeats 4000000 in
set_option maxRecDepth 100000 in
theorem point_err1 {w : World} {B b n m1 m2 : Nat} {m : Md} (e : Ev) (hw : (Lit.int .i64 e.hn).wf = true ∧ (Lit.int .i64 e.hg).wf = true ∧ (Lit.int .i64 e.nn).wf = true ∧ (Lit.int .i64 e.ng).wf = true) (hn : n + 1 ≤ 1000000) (h : MdIs w B b n m m1 m2) (ho : e.op = 1) (h0 : ¬ e.er = 0) :
    Calls Try.prog 76 #[pA b, .agg (evA e), .bool (m.st e.h == 1)] w (DoPost w B b n m1 m2 (pointF m e)) := by
  have hu0 := Try.underlying125
  have hu1 := Try.underlying34
  have hu2 := Try.underlying54
  have hmf : ∀ (fn : Fn) (first cap : Array Value) (w : World), (Instr.makeFunc fn first cap).run Try.prog w = .ok (.func fn first cap) w := fun _ _ _ _ => rfl
  have HF := Aside0.mk (show pointF m e = (m, 0) by unfold pointF; rw [if_neg (fun q => by omega), if_neg (by omega), if_pos h0])
  have q0 : (e.op == 2) = false := beq_eq_false_iff_ne.2 (by omega)
  have r0 : (e.op != 2) = true := bne_iff_ne.2 (by omega)
  have q1 : (e.op == 1) = true := beq_iff_eq.2 (ho)
  have r1 : (e.op != 1) = false := bne_eq_false_iff_eq.2 (ho)
  have q4 : (e.er == 0) = false := beq_eq_false_iff_ne.2 (h0)
  have r4 : (e.er != 0) = true := bne_iff_ne.2 (h0)
  have HW := Aside0.mk hw
  have HN := Aside0.mk hn
  have HJ := Aside0.mk (Dj.start h e)
  obtain ⟨am, ham⟩ : ∃ am, (m.st e.h == 1) = am := ⟨_, rfl⟩
  (try rw [ham] at HF); rw [ham]
  clear ham hw hn h ho h0
  go_enter Try.func76, Try.ntmps76
  by_cases g4 : (e.er == 4) = true
  · go_wp2
    go_ret
    exact DoPost.of HF.out rfl (HJ.out.md.up (by omega)) HJ.out.fr
  · have g4 : (e.er == 4) = false := by simpa using g4
    go_wp2
    go_ret
    exact DoPost.of HF.out rfl (HJ.out.md.up (by omega)) HJ.out.fr
set_option maxHeartbeats 4000000 in
set_option maxRecDepth 100000 in
theorem point_err {w : World} {B b n m1 m2 : Nat} {m : Md} (e : Ev) (hw : (Lit.int .i64 e.hn).wf = true ∧ (Lit.int .i64 e.hg).wf = true ∧ (Lit.int .i64 e.nn).wf = true ∧ (Lit.int .i64 e.ng).wf = true) (hn : n + 1 ≤ 1000000) (h : MdIs w B b n m m1 m2) (n2 : ¬ e.op = 2) (h0 : ¬ e.er = 0) (h4 : ¬ e.er = 4) :
    Calls Try.prog 76 #[pA b, .agg (evA e), .bool (m.st e.h == 1)] w (DoPost w B b n m1 m2 (pointF m e)) := by
  have hu0 := Try.underlying125
  have hu1 := Try.underlying34
  have hu2 := Try.underlying54
  have hmf : ∀ (fn : Fn) (first cap : Array Value) (w : World), (Instr.makeFunc fn first cap).run Try.prog w = .ok (.func fn first cap) w := fun _ _ _ _ => rfl
  have HF := Aside0.mk (show pointF m e = (m, 0) by unfold pointF; rw [if_neg (fun q => n2 q.1), if_neg (by omega), if_pos h0])
  have q0 : (e.op == 2) = false := beq_eq_false_iff_ne.2 (n2)
  have r0 : (e.op != 2) = true := bne_iff_ne.2 (n2)
  have q1 : (e.er == 4) = false := beq_eq_false_iff_ne.2 (h4)
  have r1 : (e.er != 4) = true := bne_iff_ne.2 (h4)
  have q4 : (e.er == 0) = false := beq_eq_false_iff_ne.2 (h0)
  have r4 : (e.er != 0) = true := bne_iff_ne.2 (h0)
  have HW := Aside0.mk hw
  have HN := Aside0.mk hn
  have HJ := Aside0.mk (Dj.start h e)
  obtain ⟨am, ham⟩ : ∃ am, (m.st e.h == 1) = am := ⟨_, rfl⟩
  (try rw [ham] at HF); rw [ham]
  clear ham hw hn h n2 h0 h4
  go_enter Try.func76, Try.ntmps76
  go_wp2
  go_ret
  exact DoPost.of HF.out rfl (HJ.out.md.up (by omega)) HJ.out.fr
set_option maxHeartbeats 4000000 in
set_option maxRecDepth 100000 in
theorem point_migrate {w : World} {B b n m1 m2 : Nat} {m : Md} (e : Ev) (hw : (Lit.int .i64 e.hn).wf = true ∧ (Lit.int .i64 e.hg).wf = true ∧ (Lit.int .i64 e.nn).wf = true ∧ (Lit.int .i64 e.ng).wf = true) (hn : n + 1 ≤ 1000000) (h : MdIs w B b n m m1 m2) (ho : e.op = 4) (h0 : e.er = 0) :
    Calls Try.prog 76 #[pA b, .agg (evA e), .bool (m.st e.h == 1)] w (DoPost w B b n m1 m2 (pointF m e)) := by
  have hu0 := Try.underlying125
  have hu1 := Try.underlying34
  have hu2 := Try.underlying54
  have hmf : ∀ (fn : Fn) (first cap : Array Value) (w : World), (Instr.makeFunc fn first cap).run Try.prog w = .ok (.func fn first cap) w := fun _ _ _ _ => rfl
  have HF := Aside0.mk (show pointF m e = unF (m.st e.h == 1) m m by unfold pointF; rw [if_neg (by omega), if_neg (by omega), if_neg (by omega), if_neg (by omega), if_pos ho]; unfold unF; by_cases ha : m.st e.h = 1 <;> simp [ha])
  have q0 : (e.op == 2) = false := beq_eq_false_iff_ne.2 (by omega)
  have r0 : (e.op != 2) = true := bne_iff_ne.2 (by omega)
  have q1 : (e.op == 1) = false := beq_eq_false_iff_ne.2 (by omega)
  have r1 : (e.op != 1) = true := bne_iff_ne.2 (by omega)
  have q2 : (e.op == 4) = true := beq_iff_eq.2 (ho)
  have r2 : (e.op != 4) = false := bne_eq_false_iff_eq.2 (ho)
  have q5 : (e.er == 4) = false := beq_eq_false_iff_ne.2 (by omega)
  have r5 : (e.er != 4) = true := bne_iff_ne.2 (by omega)
  have q4 : (e.er == 0) = true := beq_iff_eq.2 (h0)
  have r4 : (e.er != 0) = false := bne_eq_false_iff_eq.2 (h0)
  have HW := Aside0.mk hw
  have HN := Aside0.mk hn
  have HJ := Aside0.mk (Dj.start h e)
  obtain ⟨am, ham⟩ : ∃ am, (m.st e.h == 1) = am := ⟨_, rfl⟩
  (try rw [ham] at HF); rw [ham]
  clear ham hw hn h ho h0
  go_enter Try.func76, Try.ntmps76
  go_wp2_with (first | (go_at_call 73; (with_reducible refine (un_nothing am HJ.out.md).mono ?_); rintro r w4 ⟨rfl, hm, hf⟩; have HM := Aside0.mk (And.intro hm (HJ.out.fr.trans hf)); clear hm hf))
  go_ret
  exact DoPost.of HF.out rfl HM.out.1 HM.out.2
set_option maxHeartbeats 4000000 in
set_option maxRecDepth 100000 in
theorem point_rearm_node {w : World} {B b n m1 m2 : Nat} {m : Md} (e : Ev) (hw : (Lit.int .i64 e.hn).wf = true ∧ (Lit.int .i64 e.hg).wf = true ∧ (Lit.int .i64 e.nn).wf = true ∧ (Lit.int .i64 e.ng).wf = true) (hn : n + 1 ≤ 1000000) (h : MdIs w B b n m m1 m2) (n2 : ¬ e.op = 2) (n1 : ¬ e.op = 1) (n4 : ¬ e.op = 4) (h0 : e.er = 0) (hx : ¬ e.nn = e.hn) :
    Calls Try.prog 76 #[pA b, .agg (evA e), .bool (m.st e.h == 1)] w (DoPost w B b n m1 m2 (pointF m e)) := by
  have hu0 := Try.underlying125
  have hu1 := Try.underlying34
  have hu2 := Try.underlying54
  have hmf : ∀ (fn : Fn) (first cap : Array Value) (w : World), (Instr.makeFunc fn first cap).run Try.prog w = .ok (.func fn first cap) w := fun _ _ _ _ => rfl
  have HF := Aside0.mk (show pointF m e = unF false ((m.end_ e.h 4).arm e.new e.t) m by unfold pointF; rw [if_neg (by omega), if_neg (by omega), if_neg (by omega), if_neg n1, if_neg n4]; rw [if_neg (fun q => hx q.2.1)]; rfl)
  have q0 : (e.op == 2) = false := beq_eq_false_iff_ne.2 (n2)
  have r0 : (e.op != 2) = true := bne_iff_ne.2 (n2)
  have q1 : (e.op == 1) = false := beq_eq_false_iff_ne.2 (n1)
  have r1 : (e.op != 1) = true := bne_iff_ne.2 (n1)
  have q2 : (e.op == 4) = false := beq_eq_false_iff_ne.2 (n4)
  have r2 : (e.op != 4) = true := bne_iff_ne.2 (n4)
  have q5 : (e.er == 4) = false := beq_eq_false_iff_ne.2 (by omega)
  have r5 : (e.er != 4) = true := bne_iff_ne.2 (by omega)
  have q4 : (e.er == 0) = true := beq_iff_eq.2 (h0)
  have r4 : (e.er != 0) = false := bne_eq_false_iff_eq.2 (h0)
  have g0 : (e.nn == e.hn) = false := beq_eq_false_iff_ne.2 (hx)
  have HW := Aside0.mk hw
  have HN := Aside0.mk hn
  have HJ := Aside0.mk (Dj.start h e)
  obtain ⟨am, ham⟩ : ∃ am, (m.st e.h == 1) = am := ⟨_, rfl⟩
  (try rw [ham] at HF); rw [ham]
  clear ham hw hn h n2 n1 n4 h0 hx
  cases am with
  | true =>
    go_enter Try.func76, Try.ntmps76
    go_wp2_with (first | (go_at_call 73; (with_reducible refine (un_rearm false HN.out HW.out.2.2.1 HW.out.2.2.2 HW.out.1 HW.out.2.1 HJ.out.md HJ.out.eb HJ.out.xb).mono ?_); rintro r w4 ⟨rfl, hm, hf⟩; have HM := Aside0.mk (And.intro hm (HJ.out.fr.trans hf)); clear hm hf))
    go_ret
    exact DoPost.of (HF.out.trans (by rfl)) rfl HM.out.1 HM.out.2
  | false =>
    go_enter Try.func76, Try.ntmps76
    go_wp2_with (first | (go_at_call 73; (with_reducible refine (un_rearm false HN.out HW.out.2.2.1 HW.out.2.2.2 HW.out.1 HW.out.2.1 HJ.out.md HJ.out.eb HJ.out.xb).mono ?_); rintro r w4 ⟨rfl, hm, hf⟩; have HM := Aside0.mk (And.intro hm (HJ.out.fr.trans hf)); clear hm hf))
    go_ret
    exact DoPost.of (HF.out.trans (by rfl)) rfl HM.out.1 HM.out.2
set_option maxHeartbeats 4000000 in
set_option maxRecDepth 100000 in
theorem point_rearm {w : World} {B b n m1 m2 : Nat} {m : Md} (e : Ev) (hw : (Lit.int .i64 e.hn).wf = true ∧ (Lit.int .i64 e.hg).wf = true ∧ (Lit.int .i64 e.nn).wf = true ∧ (Lit.int .i64 e.ng).wf = true) (hn : n + 1 ≤ 1000000) (h : MdIs w B b n m m1 m2) (n2 : ¬ e.op = 2) (n1 : ¬ e.op = 1) (n4 : ¬ e.op = 4) (h0 : e.er = 0) (hx : e.nn = e.hn) :
    Calls Try.prog 76 #[pA b, .agg (evA e), .bool (m.st e.h == 1)] w (DoPost w B b n m1 m2 (pointF m e)) := by
  have hu0 := Try.underlying125
  have hu1 := Try.underlying34
  have hu2 := Try.underlying54
  have hmf : ∀ (fn : Fn) (first cap : Array Value) (w : World), (Instr.makeFunc fn first cap).run Try.prog w = .ok (.func fn first cap) w := fun _ _ _ _ => rfl
  have HF := Aside0.mk (show pointF m e = unF ((m.st e.h == 1) && (e.ng == wrap64 (e.hg + 1))) ((m.end_ e.h 4).arm e.new e.t) m by unfold pointF; rw [if_neg (by omega), if_neg (by omega), if_neg (by omega), if_neg n1, if_neg n4]; unfold unF; by_cases ha : m.st e.h = 1 <;> by_cases hb : e.ng = wrap64 (e.hg + 1) <;> simp [ha, hb, hx])
  have q0 : (e.op == 2) = false := beq_eq_false_iff_ne.2 (n2)
  have r0 : (e.op != 2) = true := bne_iff_ne.2 (n2)
  have q1 : (e.op == 1) = false := beq_eq_false_iff_ne.2 (n1)
  have r1 : (e.op != 1) = true := bne_iff_ne.2 (n1)
  have q2 : (e.op == 4) = false := beq_eq_false_iff_ne.2 (n4)
  have r2 : (e.op != 4) = true := bne_iff_ne.2 (n4)
  have q5 : (e.er == 4) = false := beq_eq_false_iff_ne.2 (by omega)
  have r5 : (e.er != 4) = true := bne_iff_ne.2 (by omega)
  have q4 : (e.er == 0) = true := beq_iff_eq.2 (h0)
  have r4 : (e.er != 0) = false := bne_eq_false_iff_eq.2 (h0)
  have g0 : (e.nn == e.hn) = true := beq_iff_eq.2 (hx)
  have HW := Aside0.mk hw
  have HN := Aside0.mk hn
  have HJ := Aside0.mk (Dj.start h e)
  obtain ⟨am, ham⟩ : ∃ am, (m.st e.h == 1) = am := ⟨_, rfl⟩
  (try rw [ham] at HF); rw [ham]
  clear ham hw hn h n2 n1 n4 h0 hx
  cases am with
  | true =>
    go_enter Try.func76, Try.ntmps76
    go_wp2_with (first | (go_at_call 73; (with_reducible refine (un_rearm (e.ng == wrap64 (e.hg + 1)) HN.out HW.out.2.2.1 HW.out.2.2.2 HW.out.1 HW.out.2.1 HJ.out.md HJ.out.eb HJ.out.xb).mono ?_); rintro r w4 ⟨rfl, hm, hf⟩; have HM := Aside0.mk (And.intro hm (HJ.out.fr.trans hf)); clear hm hf))
    go_ret
    exact DoPost.of (HF.out.trans (by rfl)) rfl HM.out.1 HM.out.2
  | false =>
    go_enter Try.func76, Try.ntmps76
    go_wp2_with (first | (go_at_call 73; (with_reducible refine (un_rearm false HN.out HW.out.2.2.1 HW.out.2.2.2 HW.out.1 HW.out.2.1 HJ.out.md HJ.out.eb HJ.out.xb).mono ?_); rintro r w4 ⟨rfl, hm, hf⟩; have HM := Aside0.mk (And.intro hm (HJ.out.fr.trans hf)); clear hm hf))
    go_ret
    exact DoPost.of (HF.out.trans (by rfl)) rfl HM.out.1 HM.out.2
set_option maxHeartbeats 4000000 in
set_option maxRecDepth 100000 in
theorem point_start {w : World} {B b n m1 m2 : Nat} {m : Md} (e : Ev) (hw : (Lit.int .i64 e.hn).wf = true ∧ (Lit.int .i64 e.hg).wf = true ∧ (Lit.int .i64 e.nn).wf = true ∧ (Lit.int .i64 e.ng).wf = true) (hn : n + 1 ≤ 1000000) (hwl : ∀ x, (Lit.int .i64 ((m.lst x).getD 0)).wf = true) (h : MdIs w B b n m m1 m2) (ho : e.op = 1) (h0 : e.er = 0) :
    Calls Try.prog 76 #[pA b, .agg (evA e), .bool (m.st e.h == 1)] w (DoPost w B b n m1 m2 (pointF m e)) := by
  have hu0 := Try.underlying125
  have hu1 := Try.underlying34
  have hu2 := Try.underlying54
  have hmf : ∀ (fn : Fn) (first cap : Array Value) (w : World), (Instr.makeFunc fn first cap).run Try.prog w = .ok (.func fn first cap) w := fun _ _ _ _ => rfl
  have HF := Aside0.mk (show pointF m e = unF (!(m.lst e.nn).isSome || (m.st (e.nn, (m.lst e.nn).getD 0) != 1 && decide ((m.lst e.nn).getD 0 < e.ng))) (m.arm e.new e.t) m by unfold pointF Md.startOk; rw [if_neg (by omega), if_neg (by omega), if_neg (by omega), if_pos ho]; rfl)
  have q0 : (e.op == 2) = false := beq_eq_false_iff_ne.2 (by omega)
  have r0 : (e.op != 2) = true := bne_iff_ne.2 (by omega)
  have q1 : (e.op == 1) = true := beq_iff_eq.2 (ho)
  have r1 : (e.op != 1) = false := bne_eq_false_iff_eq.2 (ho)
  have q5 : (e.er == 4) = false := beq_eq_false_iff_ne.2 (by omega)
  have r5 : (e.er != 4) = true := bne_iff_ne.2 (by omega)
  have q4 : (e.er == 0) = true := beq_iff_eq.2 (h0)
  have r4 : (e.er != 0) = false := bne_eq_false_iff_eq.2 (h0)
  have HW := Aside0.mk hw
  have HN := Aside0.mk hn
  have HJ := Aside0.mk (Dj.start h e)
  obtain ⟨am, ham⟩ : ∃ am, (m.st e.h == 1) = am := ⟨_, rfl⟩
  rw [ham]
  clear ham hw hn h ho h0
  have hl := fun q => HJ.out.md.lookL HW.out.2.2.1 (((w.alloc (.cells #[pA b] 58)).alloc (.cells (evA e) 54)).drewN q) rfl
  obtain ⟨ls, hls⟩ : ∃ ls, m.lst e.nn = ls := ⟨_, rfl⟩
  rw [hls] at hl HF
  obtain ⟨g, hg⟩ : ∃ g, ls.getD 0 = g := ⟨_, rfl⟩
  obtain ⟨md, hmd⟩ : ∃ md, ls.isSome = md := ⟨_, rfl⟩
  have HG := Aside0.mk (show (Lit.int .i64 g).wf = true by rw [← hg, ← hls]; exact hwl e.nn)
  rw [hg, hmd] at hl HF
  have CS : Aside0 (∀ W, Dj w W B b n m1 m2 m e → Calls Try.prog 33 #[pA b, .agg #[.int .i64 e.nn, .int .i64 g]] W fun r w' => r = .returned (.int .i64 (m.st (e.nn, g))) ∧ Below W.heap.size W w') := ⟨fun W hW => model_status e.nn g HW.out.2.2.1 HG.out hW.md⟩
  obtain ⟨sg, hsg⟩ : ∃ sg, m.st (e.nn, g) = sg := ⟨_, rfl⟩
  rw [hsg] at CS HF
  have HOK := HF
  clear hg hmd hls hsg hwl HF
  have hcx := fun i => blk_cell HJ.out.xb i; have hce := fun i => blk_cell HJ.out.eb i; have hlx := blk_lt HJ.out.xb; have hle := blk_lt HJ.out.eb; have hcm := fun i => HJ.out.md.cell i; have hlm := HJ.out.md.lt
  go_enter Try.func76, Try.ntmps76
  go_wp2
  go_quiet (fail)
  clear hl
  cases md with
  | false =>
    go_wp2_with (first | (go_at_call 33; (with_reducible refine (CS.out _ (HJ.out.drewN _)).mono ?_); rintro r w2 ⟨rfl, hb2⟩; have HJ2 := Aside0.mk ((HJ.out.drewN _).step hb2); clear hb2 hcx hce hlx hle hcm hlm; have HJ := HJ2; have hcx := fun i => blk_cell HJ.out.xb i; have hce := fun i => blk_cell HJ.out.eb i; have hlx := blk_lt HJ.out.xb; have hle := blk_lt HJ.out.eb; have hcm := fun i => HJ.out.md.cell i; have hlm := HJ.out.md.lt) | (go_at_call 73; (with_reducible refine (un_start true (by have := HN.out; omega) HW.out.2.2.1 HW.out.2.2.2 HJ2.out.md HJ2.out.eb HJ2.out.xb).mono ?_); rintro r w4 ⟨rfl, hm, hf⟩; have HM := Aside0.mk (And.intro hm (HJ2.out.fr.trans hf)); clear hm hf))
    go_ret
    exact DoPost.of (HOK.out.trans (by rfl)) rfl HM.out.1 HM.out.2
  | true =>
    by_cases hs1 : sg = 1
    · have g1 : (sg != 1) = false := bne_eq_false_iff_eq.2 (hs1)
      have HS1 := Aside0.mk g1
      clear hs1
      go_wp2_with (first | (go_at_call 33; (with_reducible refine (CS.out _ (HJ.out.drewN _)).mono ?_); rintro r w2 ⟨rfl, hb2⟩; have HJ2 := Aside0.mk ((HJ.out.drewN _).step hb2); clear hb2 hcx hce hlx hle hcm hlm; have HJ := HJ2; have hcx := fun i => blk_cell HJ.out.xb i; have hce := fun i => blk_cell HJ.out.eb i; have hlx := blk_lt HJ.out.xb; have hle := blk_lt HJ.out.eb; have hcm := fun i => HJ.out.md.cell i; have hlm := HJ.out.md.lt) | (go_at_call 73; (with_reducible refine (un_start false (by have := HN.out; omega) HW.out.2.2.1 HW.out.2.2.2 HJ2.out.md HJ2.out.eb HJ2.out.xb).mono ?_); rintro r w4 ⟨rfl, hm, hf⟩; have HM := Aside0.mk (And.intro hm (HJ2.out.fr.trans hf)); clear hm hf))
      go_ret
      exact DoPost.of (HOK.out.trans (by rw [HS1.out]; rfl)) rfl HM.out.1 HM.out.2
    · have g1 : (sg != 1) = true := bne_iff_ne.2 (hs1)
      have HS1 := Aside0.mk g1
      clear hs1
      go_wp2_with (first | (go_at_call 33; (with_reducible refine (CS.out _ (HJ.out.drewN _)).mono ?_); rintro r w2 ⟨rfl, hb2⟩; have HJ2 := Aside0.mk ((HJ.out.drewN _).step hb2); clear hb2 hcx hce hlx hle hcm hlm; have HJ := HJ2; have hcx := fun i => blk_cell HJ.out.xb i; have hce := fun i => blk_cell HJ.out.eb i; have hlx := blk_lt HJ.out.xb; have hle := blk_lt HJ.out.eb; have hcm := fun i => HJ.out.md.cell i; have hlm := HJ.out.md.lt) | (go_at_call 73; (with_reducible refine (un_start (decide (g < e.ng)) (by have := HN.out; omega) HW.out.2.2.1 HW.out.2.2.2 HJ2.out.md HJ2.out.eb HJ2.out.xb).mono ?_); rintro r w4 ⟨rfl, hm, hf⟩; have HM := Aside0.mk (And.intro hm (HJ2.out.fr.trans hf)); clear hm hf))
      go_ret
      exact DoPost.of (HOK.out.trans (by rw [HS1.out]; rfl)) rfl HM.out.1 HM.out.2
theorem point_any {w : World} {B b n m1 m2 : Nat} {m : Md} (e : Ev) (hw : (Lit.int .i64 e.hn).wf = true ∧ (Lit.int .i64 e.hg).wf = true ∧ (Lit.int .i64 e.nn).wf = true ∧ (Lit.int .i64 e.ng).wf = true) (hn : n + 1 ≤ 1000000) (hwl : ∀ x, (Lit.int .i64 ((m.lst x).getD 0)).wf = true) (h : MdIs w B b n m m1 m2) :
    Calls Try.prog 76 #[pA b, .agg (evA e), .bool (m.st e.h == 1)] w (DoPost w B b n m1 m2 (pointF m e)) := by
  by_cases n2 : e.op = 2
  · cases hy : e.y with
    | true => exact point_cancel e hw hn h n2 hy
    | false => exact point_cancel_no e hw hn h n2 hy
  by_cases h0 : e.er = 0
  · by_cases n1 : e.op = 1
    · exact point_start e hw hn hwl h n1 h0
    by_cases n4 : e.op = 4
    · exact point_migrate e hw hn h n4 h0
    by_cases hx : e.nn = e.hn
    · exact point_rearm e hw hn h n2 n1 n4 h0 hx
    · exact point_rearm_node e hw hn h n2 n1 n4 h0 hx
  · by_cases n1 : e.op = 1
    · exact point_err1 e hw hn h n1 h0
    · by_cases h4 : e.er = 4
      · exact point_stale e hw hn h n2 n1 h4
      · exact point_err e hw hn h n2 h0 h4
end Go.Proofs.Ythniclbmpeklmaa.Ju
end
