/- What is proved: what a history of events, read once, tells of its calls and of its handles' lives, event by event; plain Lean, no program in sight. -/
namespace Go.Proofs.Ythniclbmpeklmaa.Au
set_option linter.unusedVariables false
/-- An event. -/
structure Ev where
  k : Int
  wk : Int
  op : Int
  hn : Int
  hg : Int
  nn : Int
  ng : Int
  t : Int
  a : Int
  u : Int
  y : Bool
  er : Int
def zeroE : Ev := ⟨0, 0, 0, 0, 0, 0, 0, 0, 0, 0, false, 0⟩
abbrev Ha := Int × Int
abbrev Ev.h (e : Ev) : Ha := (e.hn, e.hg)
abbrev Ev.new (e : Ev) : Ha := (e.nn, e.ng)
structure Life where
  hn : Int
  hg : Int
  made : Int
  wk : Int
  til : Int
  dl : Int
structure Cl where
  e : Ev
  beg : Int
  clk : Int
  en : Int
structure Story where
  l : List Ev
  lives : List Life
  at_ : Ha → Option Nat
  calls : List Cl
  opn : Int → Option Nat
def noEnd : Int := 4611686018427387904
/-- The first place ahead of n of which something is so. -/
def firstN (p : Nat → Bool) : Nat → Option Nat
  | 0 => none
  | n + 1 => match firstN p n with
    | some i => some i
    | none => if p n then some n else none
theorem firstN_some {p : Nat → Bool} {n i : Nat} (h : firstN p n = some i) : i < n ∧ p i = true ∧ ∀ j, j < i → p j = false := by
  induction n with
  | zero => cases h
  | succ n ih =>
    unfold firstN at h
    cases hf : firstN p n with
    | some j =>
      rw [hf] at h
      obtain rfl : j = i := Option.some.inj h
      obtain ⟨h1, h2, h3⟩ := ih hf
      exact ⟨by omega, h2, h3⟩
    | none =>
      rw [hf] at h
      simp only at h
      by_cases hp : p n = true
      · rw [if_pos hp] at h
        obtain rfl : n = i := Option.some.inj h
        refine ⟨by omega, hp, fun j hj => ?_⟩
        clear ih h hp
        induction n with
        | zero => omega
        | succ n ih2 =>
          unfold firstN at hf
          cases hf2 : firstN p n with
          | some z => rw [hf2] at hf; cases hf
          | none =>
            rw [hf2] at hf
            simp only at hf
            by_cases e : j = n
            · subst e
              cases hq : p j with
              | false => rfl
              | true => rw [hq] at hf; simp at hf
            · exact ih2 hf2 (by omega)
      · rw [if_neg hp] at h
        cases h
theorem firstN_none {p : Nat → Bool} {n : Nat} (h : firstN p n = none) : ∀ j, j < n → p j = false := by
  induction n with
  | zero => intro j hj; omega
  | succ n ih =>
    intro j hj
    unfold firstN at h
    cases hf : firstN p n with
    | some z => rw [hf] at h; cases h
    | none =>
      rw [hf] at h
      simp only at h
      by_cases e : j = n
      · subst e
        cases hq : p j with
        | false => rfl
        | true => rw [hq] at h; simp at h
      · exact ih hf j (by omega)
theorem firstN_mk {p : Nat → Bool} {n i : Nat} (h1 : i < n) (h2 : p i = true) (h3 : ∀ j, j < i → p j = false) : firstN p n = some i := by
  cases hf : firstN p n with
  | none => rw [firstN_none hf i h1] at h2; cases h2
  | some j =>
    obtain ⟨a, b, c⟩ := firstN_some hf
    rcases Nat.lt_trichotomy i j with q | q | q
    · rw [c i q] at h2; cases h2
    · rw [q]
    · rw [h3 j q] at b; cases b
theorem firstN_mk0 {p : Nat → Bool} {n : Nat} (h : ∀ j, j < n → p j = false) : firstN p n = none := by
  cases hf : firstN p n with
  | none => rfl
  | some j =>
    obtain ⟨a, b, c⟩ := firstN_some hf
    rw [h j a] at b; cases b
theorem firstN_congr {p q : Nat → Bool} {n : Nat} (h : ∀ j, j < n → p j = q j) : firstN p n = firstN q n := by
  induction n with
  | zero => rfl
  | succ n ih =>
    unfold firstN
    rw [ih (fun j hj => h j (by omega)), h n (by omega)]
/-- A place, or -1. -/
def oI : Option Nat → Int
  | some i => i
  | none => -1
theorem oI_nonneg {o : Option Nat} {i : Nat} : oI o = (i : Int) ↔ o = some i := by
  cases o with
  | none => exact ⟨fun h => by simp only [oI] at h; omega, fun h => by cases h⟩
  | some j => exact ⟨fun h => by simp only [oI] at h; rw [show j = i by omega], fun h => by rw [Option.some.inj h]; rfl⟩
/-- What an event makes, and what it ends. -/
def mk1 (e : Ev) : Bool := e.k == 3 && e.er == 0 && (e.op == 1 || e.op == 3)
def ends (e : Ev) : Bool := (e.k == 4 || e.k == 3) && (e.k == 4 || (e.op == 2 && e.y) || (e.op == 3 && e.er == 0))
def mkP (g : Nat → Ev) (h : Ha) (i : Nat) : Bool := mk1 (g i) && decide ((g i).new = h)
def madeN (g : Nat → Ev) (n : Nat) (h : Ha) : Option Nat := firstN (mkP g h) n
def overP (g : Nat → Ev) (m : Nat) (h : Ha) (i : Nat) : Bool := decide (m < i) && (ends (g i) && decide ((g i).h = h))
def overN (g : Nat → Ev) (n m : Nat) (h : Ha) : Option Nat := firstN (overP g m h) n
def endP (g : Nat → Ev) (b i : Nat) : Bool := decide (b < i) && (decide ((g i).wk = (g b).wk) && ((g i).k == 2 || ((g i).k == 5 && decide ((g i).op = (g b).op))))
def endN (g : Nat → Ev) (n b : Nat) : Option Nat := (firstN (endP g b) n).bind fun i => if (g i).k = 5 then some i else none
def clkN (g : Nat → Ev) : Nat → Int
  | 0 => 0
  | n + 1 => if (g n).k = 1 then (g n).t else clkN g n
def tilI : Option Nat → Int
  | some i => i
  | none => noEnd
/-- What the program's turn does. -/
def updH (f : Ha → Option Nat) (h : Ha) (j : Nat) : Ha → Option Nat := fun x => if x = h then some j else f x
def updW (f : Int → Option Nat) (w : Int) (j : Nat) : Int → Option Nat := fun x => if x = w then some j else f x
def turn1 (s : Story) (i : Nat) (e : Ev) : Story :=
  match s.at_ e.h with
  | none => s
  | some k => match s.lives[k]? with
    | none => s
    | some x => if (e.k = 4 ∨ (e.op = 2 ∧ e.y = true) ∨ (e.op = 3 ∧ e.er = 0)) ∧ x.til > i then { s with lives := s.lives.set k { x with til := i } } else s
def turn2 (s : Story) (i : Nat) (e : Ev) : Story :=
  if e.k ≠ 3 ∨ e.er ≠ 0 ∨ (e.op ≠ 1 ∧ e.op ≠ 3) then s
  else match s.at_ e.new with
    | some _ => s
    | none => { s with at_ := updH s.at_ e.new s.lives.length, lives := s.lives ++ [⟨e.nn, e.ng, i, e.wk, noEnd, e.t⟩] }
def turnF (s : Story) (i : Nat) (e : Ev) : Story := turn2 (turn1 s i e) i e
def backF (s : Story) (i : Nat) (e : Ev) : Story :=
  match s.opn e.wk with
  | none => s
  | some k => match s.calls[k]? with
    | none => s
    | some q => if q.e.op = e.op ∧ q.en < 0 then { s with calls := s.calls.set k { q with en := i } } else s
/-- One event on (the event as it is told: zero where it isn't right). -/
def stepF (s : Story) (clk : Int) (i : Nat) (e : Ev) : Story :=
  let s := { s with l := s.l ++ [e] }
  if e.k = 1 then s
  else if e.k = 2 then { s with opn := updW s.opn e.wk s.calls.length, calls := s.calls ++ [⟨e, i, clk, -1⟩] }
  else if e.k = 5 then backF s i e
  else if e.k = 3 ∨ e.k = 4 then turnF s i e
  else s
def clkF (clk : Int) (e : Ev) : Int := if e.k = 1 then e.t else clk
def story0 : Story := ⟨[], [], fun _ => none, [], fun _ => none⟩
/-- What the story is, n events on. -/
structure CallAt (g : Nat → Ev) (n : Nat) (q : Cl) (b : Nat) : Prop where
  lt : b < n
  beg : q.beg = b
  e : q.e = g b
  k : (g b).k = 2
  clk : q.clk = clkN g b
  en : q.en = oI (endN g n b)
structure LifeAt (g : Nat → Ev) (n : Nat) (x : Life) (m : Nat) : Prop where
  made : x.made = m
  h : madeN g n (x.hn, x.hg) = some m
  wk : x.wk = (g m).wk
  dl : x.dl = (g m).t
  til : x.til = tilI (overN g n m (x.hn, x.hg))
structure CInv (g : Nat → Ev) (n : Nat) (calls : List Cl) (opn : Int → Option Nat) : Prop where
  call : ∀ (j : Nat) q, calls[j]? = some q → ∃ b, CallAt g n q b
  has : ∀ b, b < n → (g b).k = 2 → ∃ (j : Nat) (q : Cl), calls[j]? = some q ∧ CallAt g n q b
  open0 : ∀ w, opn w = none → ∀ b, b < n → (g b).k = 2 → (g b).wk ≠ w
  open1 : ∀ w j, opn w = some j → ∃ q b, calls[j]? = some q ∧ CallAt g n q b ∧ (g b).wk = w ∧ ∀ b', b < b' → b' < n → (g b').k = 2 → (g b').wk ≠ w
  cin : ∀ (j j' : Nat) (q q' : Cl), calls[j]? = some q → calls[j']? = some q' → j < j' → q.beg < q'.beg
structure LInv (g : Nat → Ev) (n : Nat) (lives : List Life) (at_ : Ha → Option Nat) : Prop where
  life : ∀ (j : Nat) x, lives[j]? = some x → ∃ m, LifeAt g n x m
  at0 : ∀ h, at_ h = none → madeN g n h = none
  at1 : ∀ h j, at_ h = some j → ∃ x, lives[j]? = some x ∧ (x.hn, x.hg) = h
  lin : ∀ (j j' : Nat) (x x' : Life), lives[j]? = some x → lives[j']? = some x' → j < j' → x.made < x'.made
structure Inv (g : Nat → Ev) (n : Nat) (s : Story) : Prop where
  len : s.l.length = n
  l : ∀ i, i < n → s.l[i]? = some (g i)
  c : CInv g n s.calls s.opn
  v : LInv g n s.lives s.at_
theorem inv0 (g : Nat → Ev) : Inv g 0 story0 :=
  ⟨rfl, fun i h => by omega, ⟨fun j q h => by simp [story0] at h, fun b h => by omega, fun w _ b h => by omega, fun w j h => by simp [story0] at h, fun j j' x x' h => by simp [story0] at h⟩, ⟨fun j x h => by simp [story0] at h, fun h _ => rfl, fun h j e => by simp [story0] at e, fun j j' x x' h => by simp [story0] at h⟩⟩
theorem firstN_succ_some {p : Nat → Bool} {n i : Nat} (h : firstN p n = some i) : firstN p (n + 1) = some i := by unfold firstN; rw [h]
theorem firstN_succ_none {p : Nat → Bool} {n : Nat} (h : firstN p n = none) : firstN p (n + 1) = if p n then some n else none := by
  rw [firstN, h]
theorem firstN_succ_no {p : Nat → Bool} {n : Nat} (h : p n = false) : firstN p (n + 1) = firstN p n := by
  cases hf : firstN p n with
  | some i => exact firstN_succ_some hf
  | none => rw [firstN_succ_none hf, h]; rfl
theorem endN_no {g : Nat → Ev} {n b : Nat} (h : endP g b n = false) : endN g (n + 1) b = endN g n b := by unfold endN; rw [firstN_succ_no h]
theorem endN_stay {g : Nat → Ev} {n b i : Nat} (h : endN g n b = some i) : endN g (n + 1) b = some i := by
  unfold endN at h ⊢
  cases hf : firstN (endP g b) n with
  | none => rw [hf] at h; cases h
  | some j => rw [firstN_succ_some hf]; rw [hf] at h; exact h
/-- A call that isn't the last one of its worker stays as it is. -/
theorem endN_later {g : Nat → Ev} {n b b' : Nat} (h1 : b < b') (h2 : b' < n) (hk : (g b').k = 2) (hw : (g b').wk = (g b).wk) : endN g (n + 1) b = endN g n b := by
  have hp : endP g b b' = true := by simp [endP, h1, hk, hw]
  unfold endN
  cases hf : firstN (endP g b) n with
  | none => rw [firstN_none hf b' h2] at hp; cases hp
  | some j => rw [firstN_succ_some hf]
theorem endN_new (g : Nat → Ev) (n : Nat) : endN g (n + 1) n = none := by
  unfold endN
  rw [firstN_mk0 (fun j hj => by unfold endP; rw [decide_eq_false (by omega)]; rfl)]
  rfl
theorem CallAt.up {g : Nat → Ev} {n : Nat} {q : Cl} {b : Nat} (h : CallAt g n q b) (he : endN g (n + 1) b = endN g n b) : CallAt g (n + 1) q b :=
  ⟨by have := h.lt; omega, h.beg, h.e, h.k, h.clk, by rw [he]; exact h.en⟩
theorem CallAt.uniq {g : Nat → Ev} {n : Nat} {q : Cl} {b b' : Nat} (h : CallAt g n q b) (h' : CallAt g n q b') : b = b' := by
  have := h.beg; have := h'.beg; omega
theorem overN_no {g : Nat → Ev} {n m : Nat} {h : Ha} (hh : overP g m h n = false) : overN g (n + 1) m h = overN g n m h := by unfold overN; rw [firstN_succ_no hh]
theorem madeN_no {g : Nat → Ev} {n : Nat} {h : Ha} (hh : mkP g h n = false) : madeN g (n + 1) h = madeN g n h := by unfold madeN; rw [firstN_succ_no hh]
theorem LifeAt.up {g : Nat → Ev} {n : Nat} {x : Life} {m : Nat} (h : LifeAt g n x m) (he : overN g (n + 1) m (x.hn, x.hg) = overN g n m (x.hn, x.hg)) : LifeAt g (n + 1) x m :=
  ⟨h.made, by unfold madeN; exact firstN_succ_some h.h, h.wk, h.dl, by rw [he]; exact h.til⟩
theorem get_push {α : Type} (l : List α) (x : α) (j : Nat) (y : α) (h : (l ++ [x])[j]? = some y) : l[j]? = some y ∨ (j = l.length ∧ y = x) := by
  by_cases hj : j < l.length
  · rw [List.getElem?_append_left hj] at h; exact .inl h
  · rw [List.getElem?_append_right (by omega)] at h
    have : j - l.length = 0 := by
      have := (List.getElem?_eq_some_iff.1 h).1
      simp at this
      omega
    rw [this] at h
    exact .inr ⟨by omega, by simpa using h.symm⟩
theorem get_old {α : Type} {l : List α} {x y : α} {j : Nat} (h : l[j]? = some y) : (l ++ [x])[j]? = some y := by
  rw [List.getElem?_append_left (List.getElem?_eq_some_iff.1 h).1]; exact h
theorem get_new {α : Type} (l : List α) (x : α) : (l ++ [x])[l.length]? = some x := by simp
theorem get_set {α : Type} (l : List α) (k : Nat) (x : α) (j : Nat) (y : α) (h : (l.set k x)[j]? = some y) : (j = k ∧ y = x) ∨ (j ≠ k ∧ l[j]? = some y) := by
  by_cases e : j = k
  · subst e
    rw [List.getElem?_set_self' ] at h
    cases hl : l[j]? with
    | none => rw [hl] at h; cases h
    | some z => rw [hl] at h; exact .inl ⟨rfl, (Option.some.inj h).symm⟩
  · rw [List.getElem?_set_ne (fun q => e q.symm)] at h
    exact .inr ⟨e, h⟩
theorem set_get {α : Type} {l : List α} {k : Nat} {x y : α} (h : l[k]? = some y) : (l.set k x)[k]? = some x := by
  rw [List.getElem?_set_self (List.getElem?_eq_some_iff.1 h).1]
theorem set_get_ne {α : Type} {l : List α} {k j : Nat} {x y : α} (h : l[j]? = some y) (e : j ≠ k) : (l.set k x)[j]? = some y := by
  rw [List.getElem?_set_ne (fun q => e q.symm)]; exact h
theorem endP_no {g : Nat → Ev} {n : Nat} (h2 : (g n).k ≠ 2) (h5 : (g n).k ≠ 5) (b : Nat) : endP g b n = false := by
  unfold endP
  rw [beq_eq_false_iff_ne.2 h2, beq_eq_false_iff_ne.2 h5]
  simp
theorem CInv.same {g : Nat → Ev} {n : Nat} {calls : List Cl} {opn : Int → Option Nat} (h : CInv g n calls opn) (h2 : (g n).k ≠ 2) (h5 : (g n).k ≠ 5) : CInv g (n + 1) calls opn := by
  have up : ∀ q b, CallAt g n q b → CallAt g (n + 1) q b := fun q b hq => hq.up (endN_no (endP_no h2 h5 b))
  refine ⟨fun j q hj => ?_, fun b hb hk => ?_, fun w hw b hb hk => ?_, fun w j hw => ?_, h.cin⟩
  · obtain ⟨b, hq⟩ := h.call j q hj; exact ⟨b, up q b hq⟩
  · have hne : b ≠ n := fun e => h2 (e ▸ hk)
    obtain ⟨j, q, hj, hq⟩ := h.has b (by omega) hk; exact ⟨j, q, hj, up q b hq⟩
  · have hne : b ≠ n := fun e => h2 (e ▸ hk)
    exact h.open0 w hw b (by omega) hk
  · obtain ⟨q, b, hj, hq, hb, hl⟩ := h.open1 w j hw
    refine ⟨q, b, hj, up q b hq, hb, fun b' h1 h3 hk => ?_⟩
    have hne : b' ≠ n := fun e => h2 (e ▸ hk)
    exact hl b' h1 (by omega) hk
theorem CInv.invoke {g : Nat → Ev} {n : Nat} {calls : List Cl} {opn : Int → Option Nat} (h : CInv g n calls opn) (h2 : (g n).k = 2) :
    CInv g (n + 1) (calls ++ [⟨g n, n, clkN g n, -1⟩]) (updW opn (g n).wk calls.length) := by
  have hnew : CallAt g (n + 1) ⟨g n, n, clkN g n, -1⟩ n := ⟨by omega, rfl, rfl, h2, rfl, by rw [endN_new]; rfl⟩
  have up : ∀ q b, CallAt g n q b → CallAt g (n + 1) q b := fun q b hq => hq.up (by
    have hb := hq.lt
    by_cases hw : (g n).wk = (g b).wk
    · unfold endN
      cases hf : firstN (endP g b) n with
      | some j => rw [firstN_succ_some hf]
      | none =>
        rw [firstN_succ_none hf]
        by_cases hp : endP g b n = true
        · rw [if_pos hp]; simp [h2]
        · rw [if_neg hp]
    · exact endN_no (by unfold endP; rw [decide_eq_false hw]; simp))
  refine ⟨fun j q hj => ?_, fun b hb hk => ?_, fun w hw b hb hk => ?_, fun w j hw => ?_, fun j j' q q' hj hj' hlt => ?_⟩
  · rcases get_push _ _ _ _ hj with hj | ⟨_, rfl⟩
    · obtain ⟨b, hq⟩ := h.call j q hj; exact ⟨b, up q b hq⟩
    · exact ⟨n, hnew⟩
  · by_cases e : b = n
    · subst e; exact ⟨calls.length, _, get_new _ _, hnew⟩
    · obtain ⟨j, q, hj, hq⟩ := h.has b (by omega) hk; exact ⟨j, q, get_old hj, up q b hq⟩
  · unfold updW at hw
    by_cases e : w = (g n).wk
    · rw [if_pos e] at hw; cases hw
    · rw [if_neg e] at hw
      by_cases e2 : b = n
      · subst e2; exact fun q => e q.symm
      · exact h.open0 w hw b (by omega) hk
  · unfold updW at hw
    by_cases e : w = (g n).wk
    · rw [if_pos e] at hw
      obtain rfl : calls.length = j := Option.some.inj hw
      exact ⟨_, n, get_new _ _, hnew, e.symm, fun b' h1 h3 => by omega⟩
    · rw [if_neg e] at hw
      obtain ⟨q, b, hj, hq, hb, hl⟩ := h.open1 w j hw
      refine ⟨q, b, get_old hj, up q b hq, hb, fun b' h1 h3 hk => ?_⟩
      by_cases e2 : b' = n
      · subst e2; exact fun q => e q.symm
      · exact hl b' h1 (by omega) hk
  · rcases get_push _ _ _ _ hj' with hj' | ⟨rfl, rfl⟩
    · rcases get_push _ _ _ _ hj with hj | ⟨rfl, rfl⟩
      · exact h.cin j j' q q' hj hj' hlt
      · have := (List.getElem?_eq_some_iff.1 hj').1; omega
    · rcases get_push _ _ _ _ hj with hj | ⟨rfl, rfl⟩
      · obtain ⟨b, hq⟩ := h.call j q hj
        have := hq.beg; have := hq.lt
        show q.beg < (n : Int)
        omega
      · omega
theorem endN_last {g : Nat → Ev} {n b : Nat} (h5 : (g n).k = 5) (hb : b < n) (hw : (g n).wk = (g b).wk) (ho : (g n).op = (g b).op) (hl : ∀ b', b < b' → b' < n → (g b').k = 2 → (g b').wk ≠ (g b).wk) (he : endN g n b = none) : endN g (n + 1) b = some n := by
  unfold endN at he ⊢
  cases hf : firstN (endP g b) n with
  | some j =>
    exfalso
    rw [hf] at he
    obtain ⟨h1, h2, _⟩ := firstN_some hf
    by_cases hk : (g j).k = 5
    · simp [hk] at he
    · have : (g j).k = 2 ∧ (g j).wk = (g b).wk ∧ b < j := by
        unfold endP at h2
        simp at h2
        exact ⟨by rcases h2.2.2 with q | q; exact q; exact absurd q.1 hk, h2.2.1, h2.1⟩
      exact hl j this.2.2 h1 this.1 this.2.1
  | none =>
    rw [firstN_succ_none hf, if_pos (by simp [endP, hb, hw, h5, ho])]
    simp [h5]
theorem CInv.back {g : Nat → Ev} {n : Nat} {s : Story} (h : CInv g n s.calls s.opn) (h5 : (g n).k = 5) : CInv g (n + 1) (backF s n (g n)).calls (backF s n (g n)).opn := by
  have h2 : (g n).k ≠ 2 := by omega
  -- the call that the Return may end
  have other : ∀ q b, CallAt g n q b → (∀ j, s.opn (g n).wk = some j → ∀ q', s.calls[j]? = some q' → q'.beg = q.beg → ¬ (q.e.op = (g n).op ∧ q.en < 0)) → CallAt g (n + 1) q b := fun q b hq hno => hq.up (by
    by_cases hw : (g n).wk = (g b).wk
    · by_cases hin : ∃ b', b < b' ∧ b' < n ∧ (g b').k = 2 ∧ (g b').wk = (g b).wk
      · obtain ⟨b', h1, h3, h4, h6⟩ := hin; exact endN_later h1 h3 h4 h6
      · cases ho : s.opn (g n).wk with
        | none => exact absurd hw.symm (h.open0 _ ho b hq.lt hq.k)
        | some j =>
          obtain ⟨q', b', hj, hq', hb', hl⟩ := h.open1 _ j ho
          have hbb : b' = b := by
            rcases Nat.lt_trichotomy b b' with z | z | z
            · exact absurd ⟨b', z, hq'.lt, hq'.k, hb'.trans hw⟩ hin
            · exact z.symm
            · exact absurd (hw.symm) (hl b z hq.lt hq.k)
          subst hbb
          have hn := hno j ho q' hj (by rw [hq'.beg, hq.beg])
          cases he : endN g n b' with
          | some i => rw [endN_stay he]
          | none =>
            have : ¬ q.e.op = (g n).op := fun z => hn ⟨z, by rw [hq.en, he]; decide⟩
            rw [hq.e] at this
            rw [endN_no (by unfold endP; rw [h5]; simp; intro _ _; exact fun z => this z.symm), he]
    · exact endN_no (by unfold endP; rw [decide_eq_false hw]; simp))
  have same : (∀ j, s.opn (g n).wk = some j → ∀ q', s.calls[j]? = some q' → ¬ (q'.e.op = (g n).op ∧ q'.en < 0)) → CInv g (n + 1) s.calls s.opn := fun hno => by
    have up : ∀ (j : Nat) q b, s.calls[j]? = some q → CallAt g n q b → CallAt g (n + 1) q b := fun j q b hj hq => other q b hq fun j' ho q' hj' hbe => by
      have hjj : j' = j := by
        rcases Nat.lt_trichotomy j j' with z | z | z
        · have := h.cin j j' q q' hj hj' z; omega
        · exact z.symm
        · have := h.cin j' j q' q hj' hj z; omega
      subst hjj
      obtain rfl : q' = q := Option.some.inj (hj'.symm.trans hj)
      exact hno j' ho q' hj'
    refine ⟨fun j q hj => ?_, fun b hb hk => ?_, fun w hw b hb hk => ?_, fun w j hw => ?_, h.cin⟩
    · obtain ⟨b, hq⟩ := h.call j q hj; exact ⟨b, up j q b hj hq⟩
    · have hne : b ≠ n := fun e => h2 (e ▸ hk)
      obtain ⟨j, q, hj, hq⟩ := h.has b (by omega) hk; exact ⟨j, q, hj, up j q b hj hq⟩
    · have hne : b ≠ n := fun e => h2 (e ▸ hk)
      exact h.open0 w hw b (by omega) hk
    · obtain ⟨q, b, hj, hq, hb, hl⟩ := h.open1 w j hw
      refine ⟨q, b, hj, up j q b hj hq, hb, fun b' h1 h3 hk => ?_⟩
      have hne : b' ≠ n := fun e => h2 (e ▸ hk)
      exact hl b' h1 (by omega) hk
  unfold backF
  cases ho : s.opn (g n).wk with
  | none => exact same (fun j e => by rw [ho] at e; cases e)
  | some k =>
    obtain ⟨q, b, hj, hq, hb, hl⟩ := h.open1 _ k ho
    simp only [hj]
    by_cases hc : q.e.op = (g n).op ∧ q.en < 0
    · rw [if_pos hc]
      have hen : endN g n b = none := by
        cases he : endN g n b with
        | none => rfl
        | some i => have := hc.2; rw [hq.en, he] at this; simp only [oI] at this; omega
      have hnew : CallAt g (n + 1) { q with en := (n : Int) } b :=
        ⟨by have := hq.lt; omega, hq.beg, hq.e, hq.k, hq.clk, by rw [endN_last h5 hq.lt hb.symm (by rw [← hq.e]; exact hc.1.symm) (fun b' h1 h3 hk => by rw [hb]; exact hl b' h1 h3 hk) hen]; rfl⟩
      have up : ∀ (j : Nat) q' b', j ≠ k → s.calls[j]? = some q' → CallAt g n q' b' → CallAt g (n + 1) q' b' := fun j q' b' hne hj' hq' => other q' b' hq' fun j2 ho2 q2 hj2 hbe => by
        exfalso
        rw [ho] at ho2
        obtain rfl : k = j2 := Option.some.inj ho2
        rcases Nat.lt_trichotomy j k with z | z | z
        · have := h.cin j k q' q2 hj' hj2 z; omega
        · exact hne z
        · have := h.cin k j q2 q' hj2 hj' z; omega
      show CInv g (n + 1) (s.calls.set k { q with en := (n : Int) }) s.opn
      refine ⟨fun j q' hj' => ?_, fun b' hb' hk => ?_, fun w hw b' hb' hk => ?_, fun w j hw => ?_, fun j j' p p' hp hp' hlt => ?_⟩
      · rcases get_set _ _ _ _ _ hj' with ⟨_, rfl⟩ | ⟨hne, hj'⟩
        · exact ⟨b, hnew⟩
        · obtain ⟨b', hq'⟩ := h.call j q' hj'; exact ⟨b', up j q' b' hne hj' hq'⟩
      · have hne : b' ≠ n := fun e => h2 (e ▸ hk)
        obtain ⟨j, q', hj', hq'⟩ := h.has b' (by omega) hk
        by_cases e : j = k
        · subst e
          obtain rfl : q' = q := Option.some.inj (hj'.symm.trans hj)
          obtain rfl := hq.uniq hq'
          exact ⟨j, _, set_get hj, hnew⟩
        · exact ⟨j, q', set_get_ne hj' e, up j q' b' e hj' hq'⟩
      · have hne : b' ≠ n := fun e => h2 (e ▸ hk)
        exact h.open0 w hw b' (by omega) hk
      · obtain ⟨q', b', hj', hq', hb', hl'⟩ := h.open1 w j hw
        have hl2 : ∀ b'', b' < b'' → b'' < n + 1 → (g b'').k = 2 → (g b'').wk ≠ w := fun b'' h1 h3 hk => by
          have hne : b'' ≠ n := fun e => h2 (e ▸ hk)
          exact hl' b'' h1 (by omega) hk
        by_cases e : j = k
        · subst e
          obtain rfl : q' = q := Option.some.inj (hj'.symm.trans hj)
          obtain rfl := hq.uniq hq'
          exact ⟨_, b, set_get hj, hnew, hb', hl2⟩
        · exact ⟨q', b', set_get_ne hj' e, up j q' b' e hj' hq', hb', hl2⟩
      · have bg : ∀ (j : Nat) p, (s.calls.set k { q with en := (n : Int) })[j]? = some p → ∃ p0, s.calls[j]? = some p0 ∧ p0.beg = p.beg := fun j p hp => by
          rcases get_set _ _ _ _ _ hp with ⟨rfl, rfl⟩ | ⟨_, hp⟩
          · exact ⟨q, hj, rfl⟩
          · exact ⟨p, hp, rfl⟩
        obtain ⟨p0, a1, a2⟩ := bg j p hp
        obtain ⟨p1, a3, a4⟩ := bg j' p' hp'
        have := h.cin j j' p0 p1 a1 a3 hlt
        omega
    · rw [if_neg hc]
      refine same (fun j e q' hj' => ?_)
      rw [ho] at e
      obtain rfl : k = j := Option.some.inj e
      obtain rfl : q = q' := Option.some.inj (hj.symm.trans hj')
      exact hc
theorem ends_k {e : Ev} (h3 : e.k ≠ 3) (h4 : e.k ≠ 4) : ends e = false := by
  unfold ends
  rw [beq_eq_false_iff_ne.2 h3, beq_eq_false_iff_ne.2 h4]
  rfl
theorem mk1_k {e : Ev} (h3 : e.k ≠ 3) : mk1 e = false := by
  unfold mk1
  rw [beq_eq_false_iff_ne.2 h3]
  rfl
theorem LInv.same {g : Nat → Ev} {n : Nat} {lives : List Life} {at_ : Ha → Option Nat} (h : LInv g n lives at_) (h3 : (g n).k ≠ 3) (h4 : (g n).k ≠ 4) : LInv g (n + 1) lives at_ := by
  have up : ∀ x m, LifeAt g n x m → LifeAt g (n + 1) x m := fun x m hx => hx.up (overN_no (by unfold overP; rw [ends_k h3 h4]; simp))
  refine ⟨fun j x hj => ?_, fun k hk => ?_, h.at1, h.lin⟩
  · obtain ⟨m, hx⟩ := h.life j x hj; exact ⟨m, up x m hx⟩
  · rw [madeN_no (by unfold mkP; rw [mk1_k h3]; rfl)]; exact h.at0 k hk
theorem LInv.inj {g : Nat → Ev} {n : Nat} {lives : List Life} {at_ : Ha → Option Nat} (h : LInv g n lives at_) {j j' : Nat} {x x' : Life} (hj : lives[j]? = some x) (hj' : lives[j']? = some x') (e : (x.hn, x.hg) = (x'.hn, x'.hg)) : j = j' ∧ x = x' := by
  obtain ⟨m, hm⟩ := h.life j x hj
  obtain ⟨m', hm'⟩ := h.life j' x' hj'
  have e1 : some m = some m' := hm.h.symm.trans ((congrArg (madeN g n) e).trans hm'.h)
  have e2 : x.made = x'.made := by rw [hm.made, hm'.made, Option.some.inj e1]
  rcases Nat.lt_trichotomy j j' with z | z | z
  · have := h.lin j j' x x' hj hj' z; omega
  · subst z; exact ⟨rfl, Option.some.inj (hj.symm.trans hj')⟩
  · have := h.lin j' j x' x hj' hj z; omega
/-- Behind the first half of a turn: the ends told. -/
structure LMid (g : Nat → Ev) (n : Nat) (lives : List Life) (at_ : Ha → Option Nat) : Prop where
  life : ∀ (j : Nat) x, lives[j]? = some x → ∃ m : Nat, x.made = m ∧ madeN g n (x.hn, x.hg) = some m ∧ x.wk = (g m).wk ∧ x.dl = (g m).t ∧ x.til = tilI (overN g (n + 1) m (x.hn, x.hg))
  at0 : ∀ h, at_ h = none → madeN g n h = none
  at1 : ∀ h j, at_ h = some j → ∃ x, lives[j]? = some x ∧ (x.hn, x.hg) = h
  lin : ∀ (j j' : Nat) (x x' : Life), lives[j]? = some x → lives[j']? = some x' → j < j' → x.made < x'.made
theorem overN_here {g : Nat → Ev} {n m : Nat} {h : Ha} (hm : m < n) (he : ends (g n) = true) (hh : (g n).h = h) (ho : overN g n m h = none) : overN g (n + 1) m h = some n := by
  unfold overN at ho ⊢
  rw [firstN_succ_none ho, if_pos (by unfold overP; rw [decide_eq_true hm, he, decide_eq_true hh]; rfl)]
theorem ends_34 {e : Ev} (h34 : e.k = 3 ∨ e.k = 4) : ends e = true ↔ (e.k = 4 ∨ (e.op = 2 ∧ e.y = true) ∨ (e.op = 3 ∧ e.er = 0)) := by
  unfold ends
  rcases h34 with h | h
  · simp [h]
  · simp [h]
theorem LInv.turn1 {g : Nat → Ev} {n : Nat} {s : Story} (h : LInv g n s.lives s.at_) (hn : (n : Int) < noEnd) (h34 : (g n).k = 3 ∨ (g n).k = 4) : LMid g n (turn1 s n (g n)).lives (turn1 s n (g n)).at_ := by
  have keep : (∀ (j : Nat) x m, s.lives[j]? = some x → LifeAt g n x m → overN g (n + 1) m (x.hn, x.hg) = overN g n m (x.hn, x.hg)) → LMid g n s.lives s.at_ := fun hk =>
    ⟨fun j x hj => by
      obtain ⟨m, hx⟩ := h.life j x hj
      exact ⟨m, hx.made, hx.h, hx.wk, hx.dl, by rw [hk j x m hj hx]; exact hx.til⟩, h.at0, h.at1, h.lin⟩
  have no : ∀ m (k : Ha), (g n).h ≠ k → overN g (n + 1) m k = overN g n m k := fun m k hne => overN_no (by unfold overP; rw [decide_eq_false hne]; simp)
  unfold Au.turn1
  cases ha : s.at_ (g n).h with
  | none =>
    refine keep fun j x m hj hx => no m _ fun e => ?_
    have := h.at0 _ ha
    rw [e, hx.h] at this
    cases this
  | some k =>
    obtain ⟨x, hk, hxh⟩ := h.at1 _ k ha
    obtain ⟨m, hm⟩ := h.life k x hk
    simp only [hk]
    by_cases hc : ((g n).k = 4 ∨ ((g n).op = 2 ∧ (g n).y = true) ∨ ((g n).op = 3 ∧ (g n).er = 0)) ∧ x.til > n
    · rw [if_pos hc]
      have hnone : overN g n m (x.hn, x.hg) = none := by
        cases ho : overN g n m (x.hn, x.hg) with
        | none => rfl
        | some i =>
          have h1 := hm.til
          rw [ho] at h1
          have := (firstN_some ho).1
          have := hc.2
          simp only [tilI] at h1
          omega
      have hmn : m < n := (firstN_some hm.h).1
      have hov : overN g (n + 1) m (x.hn, x.hg) = some n := overN_here hmn ((ends_34 h34).2 hc.1) hxh.symm hnone
      refine ⟨fun j x' hj => ?_, h.at0, fun q j hq => ?_, fun j j' p p' hp hp' hlt => ?_⟩
      · rcases get_set _ _ _ _ _ hj with ⟨_, rfl⟩ | ⟨hne, hj⟩
        · exact ⟨m, hm.made, hm.h, hm.wk, hm.dl, by show (n : Int) = tilI (overN g (n + 1) m (x.hn, x.hg)); rw [hov]; rfl⟩
        · obtain ⟨m', hx'⟩ := h.life j x' hj
          refine ⟨m', hx'.made, hx'.h, hx'.wk, hx'.dl, ?_⟩
          rw [no m' _ (fun e => hne (h.inj hj hk (by rw [hxh, e])).1)]
          exact hx'.til
      · obtain ⟨x', hj, e⟩ := h.at1 q j hq
        by_cases ejk : j = k
        · subst ejk
          obtain rfl : x = x' := Option.some.inj (hk.symm.trans hj)
          exact ⟨_, set_get hk, e⟩
        · exact ⟨x', set_get_ne hj ejk, e⟩
      · have bg : ∀ (j : Nat) p, (s.lives.set k { x with til := (n : Int) })[j]? = some p → ∃ p0, s.lives[j]? = some p0 ∧ p0.made = p.made := fun j p hp => by
          rcases get_set _ _ _ _ _ hp with ⟨rfl, rfl⟩ | ⟨_, hp⟩
          · exact ⟨x, hk, rfl⟩
          · exact ⟨p, hp, rfl⟩
        obtain ⟨p0, a1, a2⟩ := bg j p hp
        obtain ⟨p1, a3, a4⟩ := bg j' p' hp'
        have := h.lin j j' p0 p1 a1 a3 hlt
        omega
    · rw [if_neg hc]
      refine keep fun j x' m' hj hx' => ?_
      by_cases e : (g n).h = (x'.hn, x'.hg)
      · obtain ⟨rfl, rfl⟩ := h.inj hk hj (by rw [hxh, e])
        obtain rfl : m = m' := by have := hm.made; have := hx'.made; omega
        by_cases hen : ends (g n) = true
        · cases ho : overN g n m (x.hn, x.hg) with
          | some i => unfold overN at ho ⊢; rw [firstN_succ_some ho]
          | none =>
            have h1 := hm.til
            rw [ho] at h1
            exact absurd ⟨(ends_34 h34).1 hen, by rw [h1]; exact hn⟩ hc
        · exact overN_no (by unfold overP; simp [hen])
      · exact no m' _ e
theorem overN_self (g : Nat → Ev) (n : Nat) (h : Ha) : overN g (n + 1) n h = none := by
  unfold overN
  exact firstN_mk0 fun j hj => by unfold overP; rw [decide_eq_false (by omega)]; rfl
theorem LMid.turn2 {g : Nat → Ev} {n : Nat} {s : Story} (h : LMid g n s.lives s.at_) (h34 : (g n).k = 3 ∨ (g n).k = 4) : LInv g (n + 1) (turn2 s n (g n)).lives (turn2 s n (g n)).at_ := by
  have up : ∀ (k : Ha) m, madeN g n k = some m → madeN g (n + 1) k = some m := fun k m hm => by unfold madeN; exact firstN_succ_some hm
  have same : (∀ k, madeN g n k = none → s.at_ k = none → mkP g k n = false) → LInv g (n + 1) s.lives s.at_ := fun hno =>
    ⟨fun j x hj => by
      obtain ⟨m, a, b, c, d, e⟩ := h.life j x hj
      exact ⟨m, a, up _ m b, c, d, e⟩, fun k hk => by
      have hk0 := h.at0 k hk
      rw [madeN_no (hno k hk0 hk)]; exact hk0, h.at1, h.lin⟩
  unfold Au.turn2
  by_cases hc : (g n).k ≠ 3 ∨ (g n).er ≠ 0 ∨ ((g n).op ≠ 1 ∧ (g n).op ≠ 3)
  · rw [if_pos hc]
    refine same fun k _ _ => ?_
    have : mk1 (g n) = false := by
      unfold mk1
      rcases hc with q | q | ⟨q, r⟩
      · rw [beq_eq_false_iff_ne.2 q]; rfl
      · rw [beq_eq_false_iff_ne.2 q]; simp
      · rw [beq_eq_false_iff_ne.2 q, beq_eq_false_iff_ne.2 r]; simp
    unfold mkP
    rw [this]; rfl
  · rw [if_neg hc]
    have hmk : mk1 (g n) = true := by
      unfold mk1
      have a : (g n).k = 3 := Decidable.byContradiction fun q => hc (.inl q)
      have b : (g n).er = 0 := Decidable.byContradiction fun q => hc (.inr (.inl q))
      by_cases c : (g n).op = 1
      · simp [a, b, c]
      · have d : (g n).op = 3 := Decidable.byContradiction fun q => hc (.inr (.inr ⟨c, q⟩))
        simp [a, b, d]
    cases ha : s.at_ (g n).new with
    | some j =>
      simp only
      refine same fun k hk hk2 => ?_
      unfold mkP
      rw [decide_eq_false (fun e => by rw [← e] at hk2; rw [ha] at hk2; cases hk2)]
      simp
    | none =>
      simp only
      have hnone := h.at0 _ ha
      have hmade : madeN g (n + 1) (g n).new = some n := by
        unfold madeN at hnone ⊢
        rw [firstN_succ_none hnone, if_pos (by unfold mkP; rw [hmk]; simp)]
      have hnew : LifeAt g (n + 1) ⟨(g n).nn, (g n).ng, n, (g n).wk, noEnd, (g n).t⟩ n :=
        ⟨rfl, hmade, rfl, rfl, by show noEnd = tilI (overN g (n + 1) n _); rw [overN_self]; rfl⟩
      refine ⟨fun j x hj => ?_, fun k hk => ?_, fun k j hk => ?_, fun j j' p p' hp hp' hlt => ?_⟩
      · rcases get_push _ _ _ _ hj with hj | ⟨_, rfl⟩
        · obtain ⟨m, a, b, c, d, e⟩ := h.life j x hj
          exact ⟨m, a, up _ m b, c, d, e⟩
        · exact ⟨n, hnew⟩
      · have hk' : (if k = (g n).new then some s.lives.length else s.at_ k) = none := hk
        by_cases e : k = (g n).new
        · rw [if_pos e] at hk'; cases hk'
        · rw [if_neg e] at hk'
          rw [madeN_no (by unfold mkP; rw [decide_eq_false (fun q => e q.symm)]; simp)]
          exact h.at0 k hk'
      · have hk' : (if k = (g n).new then some s.lives.length else s.at_ k) = some j := hk
        by_cases e : k = (g n).new
        · rw [if_pos e] at hk'
          obtain rfl : s.lives.length = j := Option.some.inj hk'
          exact ⟨_, get_new _ _, e.symm⟩
        · rw [if_neg e] at hk'
          obtain ⟨x, hj, hx⟩ := h.at1 k j hk'
          exact ⟨x, get_old hj, hx⟩
      · rcases get_push _ _ _ _ hp' with hp' | ⟨rfl, rfl⟩
        · rcases get_push _ _ _ _ hp with hp | ⟨rfl, rfl⟩
          · exact h.lin j j' p p' hp hp' hlt
          · have := (List.getElem?_eq_some_iff.1 hp').1; omega
        · rcases get_push _ _ _ _ hp with hp | ⟨rfl, rfl⟩
          · obtain ⟨m, a, b, _⟩ := h.life j p hp
            have := (firstN_some b).1
            show p.made < (n : Int)
            omega
          · omega
theorem turn1_c (s : Story) (i : Nat) (e : Ev) : (turn1 s i e).calls = s.calls ∧ (turn1 s i e).opn = s.opn ∧ (turn1 s i e).l = s.l := by
  unfold turn1
  split
  · exact ⟨rfl, rfl, rfl⟩
  · split
    · exact ⟨rfl, rfl, rfl⟩
    · split <;> exact ⟨rfl, rfl, rfl⟩
theorem turn2_c (s : Story) (i : Nat) (e : Ev) : (turn2 s i e).calls = s.calls ∧ (turn2 s i e).opn = s.opn ∧ (turn2 s i e).l = s.l := by
  unfold turn2
  split
  · exact ⟨rfl, rfl, rfl⟩
  · split <;> exact ⟨rfl, rfl, rfl⟩
theorem backF_c (s : Story) (i : Nat) (e : Ev) : (backF s i e).lives = s.lives ∧ (backF s i e).at_ = s.at_ ∧ (backF s i e).l = s.l := by
  unfold backF
  split
  · exact ⟨rfl, rfl, rfl⟩
  · split
    · exact ⟨rfl, rfl, rfl⟩
    · split <;> exact ⟨rfl, rfl, rfl⟩
theorem Inv.step {g : Nat → Ev} {n : Nat} {s : Story} (h : Inv g n s) (hn : (n : Int) < noEnd) : Inv g (n + 1) (stepF s (clkN g n) n (g n)) := by
  have hl : (s.l ++ [g n]).length = n + 1 := by rw [List.length_append, h.len]; rfl
  have hg : ∀ i, i < n + 1 → (s.l ++ [g n])[i]? = some (g i) := fun i hi => by
    by_cases e : i = n
    · subst e; rw [← h.len]; simp
    · exact get_old (h.l i (by omega))
  unfold stepF
  by_cases k1 : (g n).k = 1
  · simp only [if_pos k1]
    exact ⟨hl, hg, h.c.same (by omega) (by omega), h.v.same (by omega) (by omega)⟩
  by_cases k2 : (g n).k = 2
  · simp only [if_neg k1, if_pos k2]
    exact ⟨hl, hg, h.c.invoke k2, h.v.same (by omega) (by omega)⟩
  by_cases k5 : (g n).k = 5
  · simp only [if_neg k1, if_neg k2, if_pos k5]
    have c1 := backF_c { s with l := s.l ++ [g n] } n (g n)
    refine ⟨by rw [c1.2.2]; exact hl, fun i hi => by rw [c1.2.2]; exact hg i hi, CInv.back (s := { s with l := s.l ++ [g n] }) h.c k5, ?_⟩
    rw [c1.1, c1.2.1]
    exact h.v.same (by omega) (by omega)
  by_cases k34 : (g n).k = 3 ∨ (g n).k = 4
  · simp only [if_neg k1, if_neg k2, if_neg k5, if_pos k34]
    have c1 := turn1_c { s with l := s.l ++ [g n] } n (g n)
    have c2 := turn2_c (turn1 { s with l := s.l ++ [g n] } n (g n)) n (g n)
    unfold turnF
    refine ⟨by rw [c2.2.2, c1.2.2]; exact hl, fun i hi => by rw [c2.2.2, c1.2.2]; exact hg i hi, ?_, ?_⟩
    · rw [c2.1, c2.2.1, c1.1, c1.2.1]
      exact h.c.same k2 k5
    · exact LMid.turn2 (LInv.turn1 (s := { s with l := s.l ++ [g n] }) h.v hn k34) k34
  · simp only [if_neg k1, if_neg k2, if_neg k5, if_neg k34]
    exact ⟨hl, hg, h.c.same k2 k5, h.v.same (fun q => k34 (.inl q)) (fun q => k34 (.inr q))⟩
/-- The story of the first n events. -/
def storyN (g : Nat → Ev) : Nat → Story
  | 0 => story0
  | n + 1 => stepF (storyN g n) (clkN g n) n (g n)
theorem inv_all (g : Nat → Ev) (n : Nat) (hn : (n : Int) < noEnd) : Inv g n (storyN g n) := by
  induction n with
  | zero => exact inv0 g
  | succ n ih => exact (ih (by omega)).step (by omega)
end Go.Proofs.Ythniclbmpeklmaa.Au
