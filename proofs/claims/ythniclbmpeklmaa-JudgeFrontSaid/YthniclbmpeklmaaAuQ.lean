/- What is proved: what a history shows of its fires and of its Next, told from the story of it, hangs on what stands ahead alone; plain Lean, no program in sight. -/
import Derived.Test.YthniclbmpeklmaaAuP
namespace Go.Proofs.Ythniclbmpeklmaa.Au
set_option linter.unusedVariables false
def anyN (p : Nat → Bool) (n : Nat) : Bool := (firstN p n).isSome
theorem anyN_true {p : Nat → Bool} {n : Nat} : anyN p n = true ↔ ∃ i, i < n ∧ p i = true := by
  unfold anyN
  cases h : firstN p n with
  | none => exact ⟨(by intro q; cases q), fun ⟨i, h1, h2⟩ => by rw [firstN_none h i h1] at h2; cases h2⟩
  | some i => exact ⟨fun _ => ⟨i, (firstN_some h).1, (firstN_some h).2.1⟩, fun _ => rfl⟩
theorem anyN_congr {p q : Nat → Bool} {n : Nat} (h : ∀ j, j < n → p j = q j) : anyN p n = anyN q n := by unfold anyN; rw [firstN_congr h]
theorem firstN_cut {p : Nat → Bool} {n i k : Nat} (h : firstN p n = some i) (hk : i < k) : firstN p k = some i := by
  obtain ⟨_, h2, h3⟩ := firstN_some h
  exact firstN_mk hk h2 h3
theorem firstN_cut0 {p : Nat → Bool} {n k : Nat} (h : firstN p n = none) (hk : k ≤ n) : firstN p k = none := firstN_mk0 fun j hj => firstN_none h j (by omega)
/-- What is asked at a place. -/
def twiceP (g : Nat → Ev) (i : Nat) : Bool := (g i).k == 4 && anyN (fun j => (g j).k == 4 && decide ((g j).h = (g i).h)) i
def earlyP (g : Nat → Ev) (i : Nat) : Bool := (g i).k == 4 && (match madeN g i (g i).h with | none => true | some m => decide ((g m).t > (g i).t))
def overE (b e : Ev) : Bool := (b.op == 2 && e.y) || (b.op == 3 && e.er == 0)
def wrongP (g : Nat → Ev) (i : Nat) : Bool := (g i).k == 4 && anyN (fun b => (g b).k == 2 && (decide ((g b).h = (g i).h) && (match endN g i b with | none => false | some e => overE (g b) (g e)))) i
def sleptQ (g : Nat → Ev) (i m : Nat) : Bool := mk1 (g m) && (decide (madeN g m (g m).new = none) && (decide (overN g (i + 1) m (g m).new = none) && (decide ((g i).t < 0) || decide ((g i).t > (g m).t))))
def sleptP (g : Nat → Ev) (i : Nat) : Bool := (g i).k == 5 && anyN (fun b => (g b).k == 2 && ((g b).op == 6 && (decide (endN g (i + 1) b = some i) && anyN (sleptQ g i) b))) i
/-- What the program asks of its story at a place. -/
def earlyC (s : Story) (i : Nat) (e : Ev) : Bool := match s.at_ e.h with
  | none => true
  | some k => match s.lives[k]? with
    | none => true
    | some x => decide (x.made > i) || decide (x.dl > e.t)
def wrongC1 (s : Story) (i : Nat) (e : Ev) (q : Cl) : Bool :=
  if q.en < 0 ∨ q.en > i ∨ ¬ q.e.h = e.h then false else overE q.e (s.l.getD q.en.toNat zeroE)
def wrongC (s : Story) (i : Nat) (e : Ev) : Bool := s.calls.any (wrongC1 s i e)
def sleptL (q : Cl) (t : Int) (x : Life) : Bool := decide (x.made < q.beg) && (decide (x.til > q.en) && (decide (t < 0) || decide (t > x.dl)))
def sleptC1 (s : Story) (i : Nat) (e : Ev) (q : Cl) : Bool := q.en == i && (q.e.op == 6 && s.lives.any (sleptL q e.t))
def sleptC (s : Story) (i : Nat) (e : Ev) : Bool := s.calls.any (sleptC1 s i e)
theorem mem_get {α : Type} {l : List α} {x : α} (h : x ∈ l) : ∃ j : Nat, l[j]? = some x := by
  obtain ⟨j, hj, rfl⟩ := List.getElem_of_mem h
  exact ⟨j, List.getElem?_eq_getElem hj⟩
theorem get_mem {α : Type} {l : List α} {x : α} {j : Nat} (h : l[j]? = some x) : x ∈ l := by
  obtain ⟨hj, rfl⟩ := List.getElem?_eq_some_iff.1 h
  exact List.getElem_mem hj
theorem mkP_k {g : Nat → Ev} {h : Ha} {i : Nat} (hp : mkP g h i = true) : (g i).k = 3 := by
  unfold mkP mk1 at hp
  simp at hp
  exact hp.1.1.1
theorem early_is {g : Nat → Ev} {n : Nat} {s : Story} (h : Inv g n s) {i : Nat} (hi : i < n) (hk : (g i).k = 4) : earlyC s i (g i) = earlyP g i := by
  unfold earlyC earlyP
  rw [beq_iff_eq.2 hk]
  simp only [Bool.true_and]
  cases ha : s.at_ (g i).h with
  | none =>
    have h0 := h.v.at0 _ ha
    rw [show madeN g i (g i).h = none from firstN_cut0 h0 (by omega)]
  | some k =>
    obtain ⟨x, hx, hxh⟩ := h.v.at1 _ k ha
    obtain ⟨m, hm⟩ := h.v.life k x hx
    simp only [hx]
    have hmade := hm.h
    rw [hxh] at hmade
    have hmi : m ≠ i := fun e => by
      have := mkP_k (firstN_some hmade).2.1
      rw [e, hk] at this
      omega
    rw [hm.made, hm.dl]
    by_cases hlt : m < i
    · rw [show madeN g i (g i).h = some m from firstN_cut hmade hlt]
      rw [decide_eq_false (show ¬ (m : Int) > i by omega)]
      rfl
    · rw [show madeN g i (g i).h = none from firstN_mk0 fun j hj => (firstN_some hmade).2.2 j (by omega)]
      rw [decide_eq_true (show (m : Int) > i by omega)]
      rfl
theorem endN_lt {g : Nat → Ev} {n b e : Nat} (h : endN g n b = some e) : e < n ∧ b < e ∧ (g e).k = 5 := by
  unfold endN at h
  cases hf : firstN (endP g b) n with
  | none => rw [hf] at h; cases h
  | some j =>
    rw [hf] at h
    simp only [Option.bind_some] at h
    by_cases h5 : (g j).k = 5
    · rw [if_pos h5] at h
      obtain rfl : j = e := Option.some.inj h
      obtain ⟨a, b, _⟩ := firstN_some hf
      unfold endP at b
      simp at b
      exact ⟨a, b.1, h5⟩
    · rw [if_neg h5] at h; cases h
theorem endN_cut {g : Nat → Ev} {n b e k : Nat} (h : endN g n b = some e) (hk : e < k) : endN g k b = some e := by
  unfold endN at h ⊢
  cases hf : firstN (endP g b) n with
  | none => rw [hf] at h; cases h
  | some j =>
    rw [hf] at h
    simp only [Option.bind_some] at h
    by_cases h5 : (g j).k = 5
    · rw [if_pos h5] at h
      obtain rfl : j = e := Option.some.inj h
      rw [firstN_cut hf hk]
      simp [h5]
    · rw [if_neg h5] at h; cases h
theorem getD_l {g : Nat → Ev} {n : Nat} {s : Story} (h : Inv g n s) {i : Nat} (hi : i < n) : s.l.getD i zeroE = g i := by
  rw [List.getD_eq_getElem?_getD, h.l i hi]
  rfl
theorem wrong_is {g : Nat → Ev} {n : Nat} {s : Story} (h : Inv g n s) {i : Nat} (hi : i < n) (hk : (g i).k = 4) : wrongC s i (g i) = wrongP g i := by
  unfold wrongP
  rw [beq_iff_eq.2 hk, Bool.true_and, Bool.eq_iff_iff, anyN_true]
  unfold wrongC
  rw [List.any_eq_true]
  constructor
  · rintro ⟨q, hq, hc⟩
    obtain ⟨j, hj⟩ := mem_get hq
    obtain ⟨b, hb⟩ := h.c.call j q hj
    unfold wrongC1 at hc
    split at hc
    · cases hc
    rename_i hno
    have h1 : ¬ q.en < 0 := fun z => hno (.inl z)
    have h2 : ¬ q.en > i := fun z => hno (.inr (.inl z))
    have h3 : q.e.h = (g i).h := Decidable.byContradiction fun z => hno (.inr (.inr z))
    cases he : endN g n b with
    | none => rw [hb.en, he] at h1; exact absurd (by decide) h1
    | some e =>
      have hen : q.en = e := by rw [hb.en, he]; rfl
      obtain ⟨e1, e2, e3⟩ := endN_lt he
      have hei : e ≠ i := fun z => by rw [z, hk] at e3; omega
      have hlt : e < i := by omega
      refine ⟨b, by omega, ?_⟩
      rw [hen, Int.toNat_natCast, getD_l h e1, hb.e] at hc
      rw [hb.e] at h3
      rw [endN_cut he hlt]
      simp only [hb.k, h3, decide_true, hc, beq_self_eq_true, Bool.and_self]
  · rintro ⟨b, hb, hc⟩
    simp only [Bool.and_eq_true, beq_iff_eq, decide_eq_true_eq] at hc
    obtain ⟨hk2, hh, hc⟩ := hc
    obtain ⟨j, q, hj, hq⟩ := h.c.has b (by omega) hk2
    cases he : endN g i b with
    | none => rw [he] at hc; cases hc
    | some e =>
      rw [he] at hc
      simp only at hc
      obtain ⟨e1, e2, e3⟩ := endN_lt he
      have hen : q.en = e := by rw [hq.en, endN_cut he (show e < n by omega)]; rfl
      refine ⟨q, get_mem hj, ?_⟩
      unfold wrongC1
      rw [if_neg (by rw [hen, hq.e]; rintro (z | z | z); omega; omega; exact z hh), hen, Int.toNat_natCast, getD_l h (show e < n by omega), hq.e]
      exact hc
theorem slept_is {g : Nat → Ev} {n : Nat} {s : Story} (h : Inv g n s) (hn : (n : Int) < noEnd) {i : Nat} (hi : i < n) (hk : (g i).k = 5) : sleptC s i (g i) = sleptP g i := by
  unfold sleptP
  rw [beq_iff_eq.2 hk, Bool.true_and, Bool.eq_iff_iff, anyN_true]
  unfold sleptC
  rw [List.any_eq_true]
  have tl : ∀ (m : Nat) (k : Ha), tilI (overN g n m k) > (i : Int) ↔ overN g (i + 1) m k = none := fun m k => by
    cases ho : overN g n m k with
    | none =>
      constructor
      · intro _; exact firstN_cut0 ho (by omega)
      · intro _; show noEnd > (i : Int); omega
    | some z =>
      constructor
      · intro hz
        have hz' : (z : Int) > i := hz
        exact firstN_mk0 fun j hj => (firstN_some ho).2.2 j (by omega)
      · intro hz
        show (z : Int) > i
        by_cases hzi : z < i + 1
        · have := firstN_none hz z hzi
          rw [(firstN_some ho).2.1] at this
          cases this
        · omega
  constructor
  · rintro ⟨q, hq, hc⟩
    obtain ⟨j, hj⟩ := mem_get hq
    obtain ⟨b, hb⟩ := h.c.call j q hj
    unfold sleptC1 at hc
    simp only [Bool.and_eq_true, beq_iff_eq, List.any_eq_true] at hc
    obtain ⟨hen, hop, x, hx, hl⟩ := hc
    obtain ⟨j', hj'⟩ := mem_get hx
    obtain ⟨m, hm⟩ := h.v.life j' x hj'
    have he : endN g n b = some i := oI_nonneg.1 (by rw [← hb.en]; exact hen)
    unfold sleptL at hl
    simp only [Bool.and_eq_true, decide_eq_true_eq] at hl
    obtain ⟨l1, l2, l3⟩ := hl
    rw [hm.made, hb.beg] at l1
    rw [hm.til, hen] at l2
    have hmade := firstN_some hm.h
    have hnew : (g m).new = (x.hn, x.hg) := by
      have := hmade.2.1
      unfold mkP at this
      simp at this
      exact Prod.ext this.2.1 this.2.2
    have hmk : mk1 (g m) = true := by
      have := hmade.2.1
      unfold mkP at this
      rw [Bool.and_eq_true] at this
      exact this.1
    refine ⟨b, by have := endN_lt he; omega, ?_⟩
    rw [hb.e] at hop
    simp only [hb.k, hop, endN_cut he (show i < i + 1 by omega), beq_self_eq_true, decide_true, Bool.true_and, anyN_true]
    refine ⟨m, by omega, ?_⟩
    unfold sleptQ
    rw [hnew, hmk, decide_eq_true (show madeN g m (x.hn, x.hg) = none from firstN_mk0 hmade.2.2), decide_eq_true ((tl m _).1 l2), ← hm.dl, l3]
    rfl
  · rintro ⟨b, hb, hc⟩
    simp only [Bool.and_eq_true, beq_iff_eq, decide_eq_true_eq, anyN_true] at hc
    obtain ⟨hk2, hop, he, m, hmb, hq⟩ := hc
    obtain ⟨j, q, hj, hcq⟩ := h.c.has b (by omega) hk2
    unfold sleptQ at hq
    simp only [Bool.and_eq_true, decide_eq_true_eq] at hq
    obtain ⟨q1, q2, q3, q4⟩ := hq
    have hmade : madeN g n (g m).new = some m := firstN_mk (by omega) (by unfold mkP; rw [q1]; simp) (firstN_none q2)
    cases ha : s.at_ (g m).new with
    | none => rw [h.v.at0 _ ha] at hmade; cases hmade
    | some k =>
      obtain ⟨x, hx, hxh⟩ := h.v.at1 _ k ha
      obtain ⟨m', hm'⟩ := h.v.life k x hx
      have e : m' = m := by
        have := hm'.h
        rw [hxh, hmade] at this
        exact (Option.some.inj this).symm
      subst e
      have hen : q.en = i := by rw [hcq.en, endN_cut he (show i < n by omega)]; rfl
      refine ⟨q, get_mem hj, ?_⟩
      unfold sleptC1
      simp only [hen, hcq.e, hop, beq_self_eq_true, Bool.true_and, List.any_eq_true]
      refine ⟨x, get_mem hx, ?_⟩
      unfold sleptL
      rw [hm'.made, hcq.beg, hm'.til, hen, hm'.dl, hxh, decide_eq_true (show (m' : Int) < b by omega), decide_eq_true ((tl m' _).2 q3), q4]
      rfl
/-- The answers: the first place, or -1. -/
def twiceI (g : Nat → Ev) (n : Nat) : Int := oI (firstN (twiceP g) n)
def earlyI (g : Nat → Ev) (n : Nat) : Int := oI (firstN (earlyP g) n)
def wrongI (g : Nat → Ev) (n : Nat) : Int := oI (firstN (wrongP g) n)
def sleptI (g : Nat → Ev) (n : Nat) : Int := oI (firstN (sleptP g) n)
end Go.Proofs.Ythniclbmpeklmaa.Au
