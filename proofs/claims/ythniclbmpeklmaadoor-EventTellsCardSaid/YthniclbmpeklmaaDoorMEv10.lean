/- What is proved: which fields an event has, as the program tells it by bits; no conditions. -/
import Derived.Handy
import Derived.Laws.Bits
import Derived.Test.YthniclbmpeklmaaDoorMEv1
import Derived.Test.YthniclbmpeklmaaDoorMEv9
namespace Go.Proofs.YthniclbmpeklmaaDoor.Ev
open Go.RowKit
set_option linter.unusedVariables false
set_option linter.unusedSimpArgs false
section
open Go.Lib
/-- A digit's, or a sign's, byte. -/
def digC (c : UInt8) : Prop := c = 45 ∨ (48 ≤ c.toNat ∧ c.toNat ≤ 57)
theorem dd_dig (u : Nat) : ∀ c ∈ decDigits u, 48 ≤ c.toNat ∧ c.toNat ≤ 57 := by
  induction u using Nat.strongRecOn with
  | ind u ih =>
    intro c hc
    by_cases h : u < 10
    · rw [decDigits, dif_pos h] at hc
      obtain rfl := List.mem_singleton.1 hc
      rw [UInt8.toNat_ofNat']
      omega
    · rw [dd_step u (by omega)] at hc
      rcases List.mem_append.1 hc with h1 | h1
      · exact ih _ (by omega) c h1
      · exact ih _ (by omega) c h1
theorem dd_ne (u : Nat) : decDigits u ≠ [] := by
  by_cases h : u < 10
  · rw [decDigits, dif_pos h]; simp
  · rw [decDigits, dif_neg h]; simp
/-- What a numeral's digits say. -/
def valD (l : List UInt8) : Nat := l.foldl (fun a c => a * 10 + (c.toNat - 48)) 0
theorem valD_dd (u : Nat) : valD (decDigits u) = u := by
  induction u using Nat.strongRecOn with
  | ind u ih =>
    by_cases h : u < 10
    · rw [decDigits, dif_pos h, valD]
      simp only [List.foldl_cons, List.foldl_nil]
      rw [UInt8.toNat_ofNat']
      omega
    · rw [decDigits, dif_neg h, valD, List.foldl_append]
      have := ih (u / 10) (by omega)
      rw [valD] at this
      rw [this]
      simp only [List.foldl_cons, List.foldl_nil]
      rw [UInt8.toNat_ofNat']
      omega
theorem itoa_dig (n : Int) : ∀ c ∈ itoa n, digC c := by
  intro c hc
  rcases Int.lt_or_le n 0 with h | h
  · obtain ⟨u, rfl⟩ : ∃ u : Nat, n = -(u : Int) := ⟨n.natAbs, by omega⟩
    rw [itoa_neg u (by omega)] at hc
    rcases List.mem_cons.1 hc with rfl | h1
    · exact .inl rfl
    · exact .inr (dd_dig u c h1)
  · obtain ⟨u, rfl⟩ : ∃ u : Nat, n = (u : Int) := ⟨n.toNat, by omega⟩
    rw [itoa_nonneg] at hc
    exact .inr (dd_dig u c hc)
theorem itoa_ne (n : Int) : itoa n ≠ [] := by
  rcases Int.lt_or_le n 0 with h | h
  · obtain ⟨u, rfl⟩ : ∃ u : Nat, n = -(u : Int) := ⟨n.natAbs, by omega⟩
    rw [itoa_neg u (by omega)]; simp
  · obtain ⟨u, rfl⟩ : ∃ u : Nat, n = (u : Int) := ⟨n.toNat, by omega⟩
    rw [itoa_nonneg]; exact dd_ne u
theorem dd_45 (u : Nat) (l : List UInt8) : decDigits u ≠ 45 :: l := by
  intro h
  have := dd_dig u 45 (h ▸ List.mem_cons_self ..)
  have e : (45 : UInt8).toNat = 45 := rfl
  omega
theorem itoa_inj {a b : Int} (h : itoa a = itoa b) : a = b := by
  rcases Int.lt_or_le a 0 with ha | ha <;> rcases Int.lt_or_le b 0 with hb | hb
  · obtain ⟨u, rfl⟩ : ∃ u : Nat, a = -(u : Int) := ⟨a.natAbs, by omega⟩
    obtain ⟨v, rfl⟩ : ∃ v : Nat, b = -(v : Int) := ⟨b.natAbs, by omega⟩
    rw [itoa_neg u (by omega), itoa_neg v (by omega)] at h
    have h1 := congrArg valD (List.cons.inj h).2
    rw [valD_dd, valD_dd] at h1
    rw [h1]
  · obtain ⟨u, rfl⟩ : ∃ u : Nat, a = -(u : Int) := ⟨a.natAbs, by omega⟩
    obtain ⟨v, rfl⟩ : ∃ v : Nat, b = (v : Int) := ⟨b.toNat, by omega⟩
    rw [itoa_neg u (by omega), itoa_nonneg] at h
    exact absurd h.symm (dd_45 v _)
  · obtain ⟨u, rfl⟩ : ∃ u : Nat, a = (u : Int) := ⟨a.toNat, by omega⟩
    obtain ⟨v, rfl⟩ : ∃ v : Nat, b = -(v : Int) := ⟨b.natAbs, by omega⟩
    rw [itoa_neg v (by omega), itoa_nonneg] at h
    exact absurd h (dd_45 u _)
  · obtain ⟨u, rfl⟩ : ∃ u : Nat, a = (u : Int) := ⟨a.toNat, by omega⟩
    obtain ⟨v, rfl⟩ : ∃ v : Nat, b = (v : Int) := ⟨b.toNat, by omega⟩
    rw [itoa_nonneg, itoa_nonneg] at h
    have h1 := congrArg valD h
    rw [valD_dd, valD_dd] at h1
    rw [h1]
/-- A handle's word. -/
def hanW (a b : Int) : List UInt8 := itoa a ++ 46 :: itoa b
end
/-- A word: it has a byte at least, and no blank, and no line feed. -/
def isWord (l : List UInt8) : Prop := l ≠ [] ∧ ∀ c ∈ l, c ≠ 32 ∧ c ≠ 10
theorem digC_word {c : UInt8} (h : digC c) : c ≠ 32 ∧ c ≠ 10 := by
  rcases h with rfl | h
  · exact ⟨by decide, by decide⟩
  · exact ⟨fun e => by rw [e] at h; exact absurd h.1 (by decide), fun e => by rw [e] at h; exact absurd h.1 (by decide)⟩
theorem itoa_word (n : Int) : isWord (Lib.itoa n) := ⟨itoa_ne n, fun c hc => digC_word (itoa_dig n c hc)⟩
theorem hanW_word (a b : Int) : isWord (hanW a b) := by
  refine ⟨by simp [hanW], fun c hc => ?_⟩
  rcases List.mem_append.1 hc with h | h
  · exact digC_word (itoa_dig a c h)
  · rcases List.mem_cons.1 h with rfl | h
    · exact ⟨by decide, by decide⟩
    · exact digC_word (itoa_dig b c h)
/-- Two texts without a mark, each with what begins with the mark behind it. -/
theorem cut_at {m : UInt8} : ∀ {x y A B : List UInt8}, (∀ c ∈ x, c ≠ m) → (∀ c ∈ y, c ≠ m) → (A = [] ∨ ∃ l, A = m :: l) → (B = [] ∨ ∃ l, B = m :: l) → x ++ A = y ++ B → x = y ∧ A = B
  | [], [], A, B, _, _, _, _, h => ⟨rfl, h⟩
  | [], c :: y, A, B, _, hy, hA, _, h => by
    have hc := hy c (List.mem_cons_self ..)
    rcases hA with rfl | ⟨l, rfl⟩
    · simp at h
    · exact absurd (List.cons.inj h).1.symm hc
  | c :: x, [], A, B, hx, _, _, hB, h => by
    have hc := hx c (List.mem_cons_self ..)
    rcases hB with rfl | ⟨l, rfl⟩
    · simp at h
    · exact absurd (List.cons.inj h).1 hc
  | c :: x, d :: y, A, B, hx, hy, hA, hB, h => by
    obtain ⟨h1, h2⟩ := List.cons.inj h
    obtain ⟨h3, h4⟩ := cut_at (fun c hc => hx c (List.mem_cons_of_mem _ hc)) (fun c hc => hy c (List.mem_cons_of_mem _ hc)) hA hB h2
    exact ⟨by rw [h1, h3], h4⟩
theorem hanW_inj {a b c d : Int} (h : hanW a b = hanW c d) : a = c ∧ b = d := by
  have hd : ∀ n : Int, ∀ x ∈ Lib.itoa n, x ≠ 46 := fun n x hx e => by
    rcases itoa_dig n x hx with h | h
    · rw [e] at h; exact absurd h (by decide)
    · rw [e] at h; exact absurd h.1 (by decide)
  obtain ⟨h1, h2⟩ := cut_at (hd a) (hd c) (.inr ⟨_, rfl⟩) (.inr ⟨_, rfl⟩) h
  exact ⟨itoa_inj h1, itoa_inj (List.cons.inj h2).2⟩
/-- Words, each with a blank ahead of it. -/
def tailW (l : List (List UInt8)) : List UInt8 := l.flatMap fun x => 32 :: x
theorem tailW_nil : tailW [] = [] := rfl
theorem tailW_cons (x : List UInt8) (l : List (List UInt8)) : tailW (x :: l) = 32 :: (x ++ tailW l) := by simp [tailW]
theorem tailW_app (a b : List (List UInt8)) : tailW (a ++ b) = tailW a ++ tailW b := by simp [tailW]
theorem tailW_head (l : List (List UInt8)) : tailW l = [] ∨ ∃ r, tailW l = 32 :: r := by
  cases l with
  | nil => exact .inl rfl
  | cons x l => exact .inr ⟨_, tailW_cons x l⟩
theorem tailW_inj : ∀ {a b : List (List UInt8)}, (∀ x ∈ a, isWord x) → (∀ x ∈ b, isWord x) → tailW a = tailW b → a = b
  | [], [], _, _, _ => rfl
  | [], y :: b, _, _, h => by rw [tailW_nil, tailW_cons] at h; cases h
  | x :: a, [], _, _, h => by rw [tailW_nil, tailW_cons] at h; cases h
  | x :: a, y :: b, ha, hb, h => by
    rw [tailW_cons, tailW_cons] at h
    obtain ⟨h1, h2⟩ := cut_at (fun c hc => ((ha x (List.mem_cons_self ..)).2 c hc).1) (fun c hc => ((hb y (List.mem_cons_self ..)).2 c hc).1) (tailW_head a) (tailW_head b) (List.cons.inj h).2
    rw [h1, tailW_inj (fun x hx => ha x (List.mem_cons_of_mem _ hx)) (fun x hx => hb x (List.mem_cons_of_mem _ hx)) h2]
theorem text_inj {x y : List UInt8} {a b : List (List UInt8)} (hx : isWord x) (hy : isWord y) (ha : ∀ x ∈ a, isWord x) (hb : ∀ x ∈ b, isWord x) (h : x ++ tailW a = y ++ tailW b) : x = y ∧ a = b := by
  obtain ⟨h1, h2⟩ := cut_at (fun c hc => (hx.2 c hc).1) (fun c hc => (hy.2 c hc).1) (tailW_head a) (tailW_head b) h
  exact ⟨h1, tailW_inj ha hb h2⟩
/-- The words of a text, one blank between two of them: no line feed, no blank at either end, no two blanks in a row. -/
def Fine (l : List UInt8) : Prop := (∀ c ∈ l, c ≠ 10) ∧ l.head? ≠ some 32 ∧ l.getLast? ≠ some 32 ∧ ∀ i : Nat, l[i]? = some 32 → l[i + 1]? ≠ some 32
theorem fine_word {x : List UInt8} (h : isWord x) : Fine x := by
  refine ⟨fun c hc => (h.2 c hc).2, fun e => (h.2 32 (List.mem_of_head? e)).1 rfl, fun e => (h.2 32 (List.mem_of_getLast? e)).1 rfl, fun i hi => absurd rfl (h.2 32 (List.mem_of_getElem? hi)).1⟩
theorem fine_add {x y : List UInt8} (hx : Fine x) (hx0 : x ≠ []) (hy : isWord y) : Fine (x ++ 32 :: y) := by
  have fy := fine_word hy
  refine ⟨fun c hc => ?_, ?_, ?_, fun i hi => ?_⟩
  · rcases List.mem_append.1 hc with h | h
    · exact hx.1 c h
    · rcases List.mem_cons.1 h with rfl | h
      · decide
      · exact fy.1 c h
  · cases x with
    | nil => exact absurd rfl hx0
    | cons a x => exact hx.2.1
  · have : (x ++ 32 :: y).getLast? = y.getLast? := by
      cases y with
      | nil => exact absurd rfl hy.1
      | cons b y =>
        rw [List.getLast?_append, List.getLast?_cons_cons]
        rw [List.getLast?_eq_some_getLast (by simp)]
        rfl
    rw [this]
    exact fy.2.2.1
  · rcases Nat.lt_trichotomy (i + 1) x.length with h | h | h
    · rw [List.getElem?_append_left (by omega)] at hi
      rw [List.getElem?_append_left h]
      exact hx.2.2.2 i hi
    · rw [List.getElem?_append_left (by omega)] at hi
      exfalso
      apply hx.2.2.1
      rw [List.getLast?_eq_getElem?]
      rw [show x.length - 1 = i by omega]
      exact hi
    · rw [List.getElem?_append_right (by omega)]
      rw [List.getElem?_append_right (by omega)] at hi
      obtain ⟨j, hj⟩ : ∃ j, i = x.length + j := ⟨i - x.length, by omega⟩
      subst hj
      rw [show x.length + j + 1 - x.length = j + 1 by omega]
      intro e
      rw [List.getElem?_cons_succ] at e
      exact absurd rfl (hy.2 32 (List.mem_of_getElem? e)).1
theorem fine_text : ∀ {l : List (List UInt8)} {x : List UInt8}, Fine x → x ≠ [] → (∀ y ∈ l, isWord y) → Fine (x ++ tailW l)
  | [], x, hx, h0, _ => by rw [tailW_nil, List.append_nil]; exact hx
  | y :: l, x, hx, h0, hl => by
    rw [tailW_cons, show x ++ 32 :: (y ++ tailW l) = (x ++ 32 :: y) ++ tailW l by simp]
    exact fine_text (fine_add hx h0 (hl y (List.mem_cons_self ..))) (by simp) (fun z hz => hl z (List.mem_cons_of_mem _ hz))
/-- A kind's name. -/
def kindW (k : Int) : List UInt8 := if k = 1 then [116, 105, 99, 107] else if k = 2 then [105, 110, 118, 111, 107, 101] else if k = 3 then [112, 111, 105, 110, 116] else if k = 4 then [102, 105, 114, 101] else [114, 101, 116, 117, 114, 110]
/-- An operation's name. -/
def opW (o : Int) : List UInt8 := if o = 1 then [115, 116, 97, 114, 116] else if o = 2 then [99, 97, 110, 99, 101, 108] else if o = 3 then [114, 101, 97, 114, 109] else if o = 4 then [109, 105, 103, 114, 97, 116, 101] else if o = 5 then [97, 100, 118, 97, 110, 99, 101] else if o = 6 then [110, 101, 120, 116] else [112, 101, 101, 107]
def yesW (y : Bool) : List UInt8 := if y then [121, 101, 115] else [110, 111]
theorem word_of_all {l : List UInt8} (h : (!l.isEmpty && l.all fun c => c != 32 && c != 10) = true) : isWord l := by
  rw [Bool.and_eq_true, List.all_eq_true] at h
  refine ⟨by intro e; rw [e] at h; exact absurd h.1 (by decide), fun c hc => ?_⟩
  have := h.2 c hc
  rw [Bool.and_eq_true] at this
  exact ⟨by simpa using this.1, by simpa using this.2⟩
theorem kindW_word (k : Int) : isWord (kindW k) := by
  unfold kindW
  repeat' split
  all_goals exact word_of_all (by decide)
theorem opW_word (k : Int) : isWord (opW k) := by
  unfold opW
  repeat' split
  all_goals exact word_of_all (by decide)
theorem yesW_word (y : Bool) : isWord (yesW y) := by cases y <;> exact word_of_all (by decide)
/-- An event's words behind its kind's name. -/
def restW (k wk op hn hg nn ng t a u : Int) (y : Bool) (er : Int) : List (List UInt8) :=
  (if k = 1 then [] else [Lib.itoa wk]) ++ (if op = 0 then [] else [opW op]) ++ (if hasH k op then [hanW hn hg] else []) ++ (if hasN k op er then [hanW nn ng] else []) ++
    (if hasT k op er then [Lib.itoa t] else []) ++ (if hasA k op then [Lib.itoa a] else []) ++ (if hasU k op then [Lib.itoa u] else []) ++ (if hasY k op then [yesW y] else []) ++ (if hasE k op then [Lib.itoa er] else [])
theorem mem_if {c : Prop} [Decidable c] {x y : List UInt8} (h : y ∈ (if c then [x] else [])) : y = x := by
  split at h
  · exact List.mem_singleton.1 h
  · cases h
theorem mem_if2 {c : Prop} [Decidable c] {x y : List UInt8} (h : y ∈ (if c then [] else [x])) : y = x := by
  split at h
  · cases h
  · exact List.mem_singleton.1 h
theorem restW_word (k wk op hn hg nn ng t a u : Int) (y : Bool) (er : Int) : ∀ x ∈ restW k wk op hn hg nn ng t a u y er, isWord x := by
  intro x hx
  unfold restW at hx
  simp only [List.mem_append] at hx
  rcases hx with (((((((h | h) | h) | h) | h) | h) | h) | h) | h
  · rw [mem_if2 h]; exact itoa_word _
  · rw [mem_if2 h]; exact opW_word _
  · rw [mem_if h]; exact hanW_word _ _
  · rw [mem_if h]; exact hanW_word _ _
  · rw [mem_if h]; exact itoa_word _
  · rw [mem_if h]; exact itoa_word _
  · rw [mem_if h]; exact itoa_word _
  · rw [mem_if h]; exact yesW_word _
  · rw [mem_if h]; exact itoa_word _
/-- An event's text. -/
def textW (k wk op hn hg nn ng t a u : Int) (y : Bool) (er : Int) : List UInt8 := kindW k ++ tailW (restW k wk op hn hg nn ng t a u y er)
theorem textW_fine (k wk op hn hg nn ng t a u : Int) (y : Bool) (er : Int) : Fine (textW k wk op hn hg nn ng t a u y er) :=
  fine_text (fine_word (kindW_word k)) (kindW_word k).1 (fun x hx => restW_word _ _ _ _ _ _ _ _ _ _ _ _ x hx)
/-- The kinds and operations of events that are right. -/
theorem kind_cases {k wk op : Int} (h : kindB k wk op = true) : (k = 1 ∧ op = 0 ∧ wk = 0) ∨ (k = 4 ∧ op = 0) ∨ (k = 2 ∧ (op = 1 ∨ op = 2 ∨ op = 3 ∨ op = 4 ∨ op = 5 ∨ op = 6 ∨ op = 7)) ∨ (k = 3 ∧ (op = 1 ∨ op = 2 ∨ op = 3 ∨ op = 4)) ∨ (k = 5 ∧ (op = 1 ∨ op = 2 ∨ op = 3 ∨ op = 4 ∨ op = 5 ∨ op = 6 ∨ op = 7)) := by
  simp [kindB] at h
  omega
theorem kindW_inj {k k' : Int} (h0 : 1 ≤ k) (h1 : k ≤ 5) (h0' : 1 ≤ k') (h1' : k' ≤ 5) (h : kindW k = kindW k') : k = k' := by
  obtain rfl | rfl | rfl | rfl | rfl : k = 1 ∨ k = 2 ∨ k = 3 ∨ k = 4 ∨ k = 5 := by omega
  all_goals
    obtain rfl | rfl | rfl | rfl | rfl : k' = 1 ∨ k' = 2 ∨ k' = 3 ∨ k' = 4 ∨ k' = 5 := by omega
    all_goals first | rfl | exact absurd h (by decide)
theorem opW_inj {k k' : Int} (h0 : 1 ≤ k) (h1 : k ≤ 7) (h0' : 1 ≤ k') (h1' : k' ≤ 7) (h : opW k = opW k') : k = k' := by
  obtain rfl | rfl | rfl | rfl | rfl | rfl | rfl : k = 1 ∨ k = 2 ∨ k = 3 ∨ k = 4 ∨ k = 5 ∨ k = 6 ∨ k = 7 := by omega
  all_goals
    obtain rfl | rfl | rfl | rfl | rfl | rfl | rfl : k' = 1 ∨ k' = 2 ∨ k' = 3 ∨ k' = 4 ∨ k' = 5 ∨ k' = 6 ∨ k' = 7 := by omega
    all_goals first | rfl | exact absurd h (by decide)
theorem itoa_iff {a b : Int} : Lib.itoa a = Lib.itoa b ↔ a = b := ⟨itoa_inj, fun h => by rw [h]⟩
theorem hanW_iff {a b c d : Int} : hanW a b = hanW c d ↔ a = c ∧ b = d := ⟨hanW_inj, fun h => by rw [h.1, h.2]⟩
theorem yesW_iff {a b : Bool} : yesW a = yesW b ↔ a = b := by cases a <;> cases b <;> decide
/-- Events that are right and have one text are one. -/
theorem textW_inj {k wk op hn hg nn ng t a u : Int} {y : Bool} {er : Int} {k' wk' op' hn' hg' nn' ng' t' a' u' : Int} {y' : Bool} {er' : Int}
    (h : evRight k wk op hn hg nn ng t a u y er = true) (h' : evRight k' wk' op' hn' hg' nn' ng' t' a' u' y' er' = true)
    (e : textW k wk op hn hg nn ng t a u y er = textW k' wk' op' hn' hg' nn' ng' t' a' u' y' er') :
    k = k' ∧ wk = wk' ∧ op = op' ∧ hn = hn' ∧ hg = hg' ∧ nn = nn' ∧ ng = ng' ∧ t = t' ∧ a = a' ∧ u = u' ∧ y = y' ∧ er = er' := by
  obtain ⟨e1, e2⟩ := text_inj (kindW_word k) (kindW_word k') (fun x hx => restW_word _ _ _ _ _ _ _ _ _ _ _ _ x hx) (fun x hx => restW_word _ _ _ _ _ _ _ _ _ _ _ _ x hx) e
  clear e
  have hk : kindB k wk op = true := by simp only [evRight, Bool.and_eq_true] at h; exact h.1.1.1.1
  have hk' : kindB k' wk' op' = true := by simp only [evRight, Bool.and_eq_true] at h'; exact h'.1.1.1.1
  have he : emptyB k op hn hg nn ng t a u y er = true := by simp only [evRight, Bool.and_eq_true] at h; exact h.1.1.1.2
  have he' : emptyB k' op' hn' hg' nn' ng' t' a' u' y' er' = true := by simp only [evRight, Bool.and_eq_true] at h'; exact h'.1.1.1.2
  clear h h'
  have c := kind_cases hk
  have c' := kind_cases hk'
  clear hk hk'
  obtain rfl : k = k' := kindW_inj (by omega) (by omega) (by omega) (by omega) e1
  clear e1
  have hop : op = op' := by
    rcases c with c | c | c | c | c <;> rcases c' with c' | c' | c' | c' | c' <;> try omega
    all_goals
      obtain ⟨rfl, c⟩ := c
      obtain ⟨-, c'⟩ := c'
      have z : ¬ op = 0 := by omega
      have z' : ¬ op' = 0 := by omega
      simp only [restW, z, z', if_false, List.singleton_append, List.append_assoc] at e2
      have e3 := (List.cons.inj (List.cons.inj e2).2).1
      exact opW_inj (by omega) (by omega) (by omega) (by omega) e3
  subst hop
  have hwk : wk = wk' := by
    rcases c with c | c | c | c | c <;> rcases c' with c' | c' | c' | c' | c' <;> try omega
    all_goals
      obtain ⟨rfl, c⟩ := c
      simp only [restW, List.append_assoc, if_neg (show ¬ (4 : Int) = 1 by decide), if_neg (show ¬ (2 : Int) = 1 by decide), if_neg (show ¬ (3 : Int) = 1 by decide), if_neg (show ¬ (5 : Int) = 1 by decide)] at e2
      exact itoa_inj (List.cons.inj e2).1
  subst hwk
  refine ⟨rfl, rfl, rfl, ?_⟩
  clear c'
  by_cases z : er = 0 <;> by_cases z' : er' = 0
  all_goals
    rcases c with ⟨rfl, rfl, rfl⟩ | ⟨rfl, rfl⟩ | ⟨rfl, rfl | rfl | rfl | rfl | rfl | rfl | rfl⟩ | ⟨rfl, rfl | rfl | rfl | rfl⟩ | ⟨rfl, rfl | rfl | rfl | rfl | rfl | rfl | rfl⟩
    all_goals
      simp [restW, emptyB, hasH, hasN, hasT, hasA, hasU, hasY, hasE, in3, made, z, z', itoa_iff, hanW_iff, yesW_iff] at e2 he he'
      all_goals simp [*]
end Go.Proofs.YthniclbmpeklmaaDoor.Ev
namespace Go.Proofs.YthniclbmpeklmaaDoor.Ev
open Go.RowKit Go.Proofs.YthniclbmpeklmaaDoorW.PrintWords Go.Proofs.YthniclbmpeklmaaDoorW.PrintLast Go.Proofs.YthniclbmpeklmaaDoorW.PrintMore
set_option linter.unusedVariables false
set_option linter.unusedSimpArgs false

theorem pick_yes (L : List Int) (op : Int) (b : Nat) (w : World) (hL : L.length ≤ 100) (hc : ∀ j, j < L.length → w.cell? ⟨b, j, none⟩ = some (.int .i64 (L.getD j 0))) (h1 : 1 ≤ op) (h2 : op < L.length) :
    Calls Tryd.prog 33 #[.slice (some ⟨b, 0, none⟩) L.length L.length, .int .i64 op] w fun e w' => e = .returned (.tuple #[.int .i64 (L.getD op.toNat 0), .bool true]) ∧ w' = w := by
  have c0 := hc op.toNat (by omega)
  have d1 : decide (op < 1) = false := by simp; omega
  have d2 : decide ((L.length : Int) ≤ op) = false := by simp; omega
  obtain ⟨x, hx⟩ : ∃ x, x = L.getD op.toNat 0 := ⟨_, rfl⟩
  rw [← hx] at c0 ⊢
  clear hc hx
  go_enter Tryd.func33, Tryd.ntmps33
  go_wp2
  go_ret2
  exact ⟨rfl, rfl⟩
theorem pick_no (L : List Int) (op : Int) (b : Nat) (w : World) (hL : L.length ≤ 100) (h : op < 1 ∨ (L.length : Int) ≤ op) :
    Calls Tryd.prog 33 #[.slice (some ⟨b, 0, none⟩) L.length L.length, .int .i64 op] w fun e w' => e = .returned (.tuple #[.int .i64 0, .bool false]) ∧ w' = w := by
  by_cases h1 : op < 1
  · have d1 : decide (op < 1) = true := decide_eq_true h1
    go_enter Tryd.func33, Tryd.ntmps33
    go_wp2
    go_ret2
    exact ⟨rfl, rfl⟩
  · have d1 : decide (op < 1) = false := decide_eq_false h1
    have d2 : decide ((L.length : Int) ≤ op) = true := by simp; omega
    clear h h1
    go_enter Tryd.func33, Tryd.ntmps33
    go_wp2
    go_ret2
    exact ⟨rfl, rfl⟩
/-- An operation's fields. -/
def pickL (L : List Int) (op : Int) : Int × Bool := if op < 1 ∨ (L.length : Int) ≤ op then (0, false) else (L.getD op.toNat 0, true)
theorem cells_lit (W : World) (L : List Int) (C : Array Value) (t : TypeId) (hC : C = (L.map (Value.int .i64)).toArray) (b : Nat) (hb : b = W.heap.size) : ∀ j, j < L.length → (W.alloc (.cells C t)).cell? ⟨b, j, none⟩ = some (.int .i64 (L.getD j 0)) := by
  subst hC hb
  intro j hj
  rw [World.cell?_alloc_new]
  simp [List.getD_eq_getElem?_getD, hj]
theorem pick_any (L : List Int) (n : Nat) (hn : L.length = n) (op : Int) (b : Nat) (w : World) (hL : L.length ≤ 100) (hc : ∀ j, j < L.length → w.cell? ⟨b, j, none⟩ = some (.int .i64 (L.getD j 0))) :
    Calls Tryd.prog 33 #[.slice (some ⟨b, 0, none⟩) n n, .int .i64 op] w fun e w' => e = .returned (.tuple #[.int .i64 (pickL L op).1, .bool (pickL L op).2]) ∧ w' = w := by
  subst hn
  unfold pickL
  by_cases h : op < 1 ∨ (L.length : Int) ≤ op
  · rw [if_pos h]; exact pick_no L op b w hL h
  · rw [if_neg h]; exact pick_yes L op b w hL hc (by omega) (by omega)

/-- What an event's kind and operation have, and whether there are such ones. -/
def fieldsF (k wk op er : Int) : Int × Bool :=
  if k = 1 then (4, op == 0 && wk == 0)
  else if k = 4 then (21, op == 0)
  else if k = 2 then pickL [0, 28, 1, 5, 9, 0, 0, 0] op
  else if k = 3 then (if er = 0 then (pickL [0, 70, 33, 71, 65] op).1 else bits BinOp.andNot IntKind.i64 (pickL [0, 70, 33, 71, 65] op).1 6, (pickL [0, 70, 33, 71, 65] op).2)
  else if k = 5 then (if er = 0 then (pickL [0, 66, 32, 66, 64, 0, 4, 4] op).1 else bits BinOp.andNot IntKind.i64 (pickL [0, 66, 32, 66, 64, 0, 4, 4] op).1 2, (pickL [0, 66, 32, 66, 64, 0, 4, 4] op).2)
  else (0, false)

set_option maxHeartbeats 4000000 in
set_option maxRecDepth 100000 in
theorem fields_any (k wk op hn hg nn ng t a u : Int) (y : Bool) (er : Int) (w : World) :
    Calls Tryd.prog 19 #[.agg (evC k wk op hn hg nn ng t a u y er)] w fun e w' => e = .returned (.tuple #[.int .i64 (fieldsF k wk op er).1, .bool (fieldsF k wk op er).2]) ∧ Below w.heap.size w w' := by
  have hu := Tryd.underlying31
  have HB := Aside0.mk (Below.refl w.heap.size w)
  unfold fieldsF
  by_cases k1 : k = 1
  · subst k1
    rw [if_pos rfl]
    cases ho : (op == 0)
    all_goals
      go_enter Tryd.func19, Tryd.ntmps19
      go_wp2
      go_quiet (fail)
      go_wp2
      go_ret2
      exact ⟨by simp [*], by repeat (first | exact HB.out | apply below_alloc | apply pw_below_drewN)⟩
  · rw [if_neg k1]
    have b1 : (k == 1) = false := beq_eq_false_iff_ne.2 k1
    clear k1
    by_cases k4 : k = 4
    · subst k4
      rw [if_pos rfl]
      go_enter Tryd.func19, Tryd.ntmps19
      go_wp2
      go_ret2
      exact ⟨by simp [*], by repeat (first | exact HB.out | apply below_alloc | apply pw_below_drewN)⟩
    · rw [if_neg k4]
      have b4 : (k == 4) = false := beq_eq_false_iff_ne.2 k4
      clear k4
      by_cases k2 : k = 2
      · subst k2
        rw [if_pos rfl]
        go_enter Tryd.func19, Tryd.ntmps19
        go_wp2_with (go_at_call 33; (with_reducible refine (pick_any [0, 28, 1, 5, 9, 0, 0, 0] 8 rfl _ _ _ (by decide) (cells_lit _ [0, 28, 1, 5, 9, 0, 0, 0] _ _ ?c1 _ ?c2)).mono ?_); (case c1 => rfl); (case c2 => simp); rintro e w1 ⟨rfl, rfl⟩)
        go_ret2
        exact ⟨by simp [*], by repeat (first | exact HB.out | apply below_alloc | apply pw_below_drewN)⟩
      · rw [if_neg k2]
        have b2 : (k == 2) = false := beq_eq_false_iff_ne.2 k2
        clear k2
        by_cases k3 : k = 3
        · subst k3
          rw [if_pos rfl]
          cases he : (er == 0)
          · rw [if_neg (beq_eq_false_iff_ne.1 he)]
            have he2 : (er != 0) = true := by simp [bne, he]
            go_enter Tryd.func19, Tryd.ntmps19
            go_wp2_with (go_at_call 33; (with_reducible refine (pick_any [0, 70, 33, 71, 65] 5 rfl _ _ _ (by decide) (cells_lit _ [0, 70, 33, 71, 65] _ _ ?c1 _ ?c2)).mono ?_); (case c1 => rfl); (case c2 => simp); rintro e w1 ⟨rfl, rfl⟩)
            go_ret2
            exact ⟨by simp [*], by repeat (first | exact HB.out | apply below_alloc | apply pw_below_drewN)⟩
          · rw [if_pos (beq_iff_eq.1 he)]
            have he2 : (er != 0) = false := by simp [bne, he]
            go_enter Tryd.func19, Tryd.ntmps19
            go_wp2_with (go_at_call 33; (with_reducible refine (pick_any [0, 70, 33, 71, 65] 5 rfl _ _ _ (by decide) (cells_lit _ [0, 70, 33, 71, 65] _ _ ?c1 _ ?c2)).mono ?_); (case c1 => rfl); (case c2 => simp); rintro e w1 ⟨rfl, rfl⟩)
            go_ret2
            exact ⟨by simp [*], by repeat (first | exact HB.out | apply below_alloc | apply pw_below_drewN)⟩
        · rw [if_neg k3]
          have b3 : (k == 3) = false := beq_eq_false_iff_ne.2 k3
          clear k3
          by_cases k5 : k = 5
          · subst k5
            rw [if_pos rfl]
            cases he : (er == 0)
            · rw [if_neg (beq_eq_false_iff_ne.1 he)]
              have he2 : (er != 0) = true := by simp [bne, he]
              go_enter Tryd.func19, Tryd.ntmps19
              go_wp2_with (go_at_call 33; (with_reducible refine (pick_any [0, 66, 32, 66, 64, 0, 4, 4] 8 rfl _ _ _ (by decide) (cells_lit _ [0, 66, 32, 66, 64, 0, 4, 4] _ _ ?c1 _ ?c2)).mono ?_); (case c1 => rfl); (case c2 => simp); rintro e w1 ⟨rfl, rfl⟩)
              go_ret2
              exact ⟨by simp [*], by repeat (first | exact HB.out | apply below_alloc | apply pw_below_drewN)⟩
            · rw [if_pos (beq_iff_eq.1 he)]
              have he2 : (er != 0) = false := by simp [bne, he]
              go_enter Tryd.func19, Tryd.ntmps19
              go_wp2_with (go_at_call 33; (with_reducible refine (pick_any [0, 66, 32, 66, 64, 0, 4, 4] 8 rfl _ _ _ (by decide) (cells_lit _ [0, 66, 32, 66, 64, 0, 4, 4] _ _ ?c1 _ ?c2)).mono ?_); (case c1 => rfl); (case c2 => simp); rintro e w1 ⟨rfl, rfl⟩)
              go_ret2
              exact ⟨by simp [*], by repeat (first | exact HB.out | apply below_alloc | apply pw_below_drewN)⟩
          · rw [if_neg k5]
            have b5 : (k == 5) = false := beq_eq_false_iff_ne.2 k5
            clear k5
            go_enter Tryd.func19, Tryd.ntmps19
            go_wp2
            go_ret2
            exact ⟨by simp [*], by repeat (first | exact HB.out | apply below_alloc | apply pw_below_drewN)⟩
end Go.Proofs.YthniclbmpeklmaaDoor.Ev
