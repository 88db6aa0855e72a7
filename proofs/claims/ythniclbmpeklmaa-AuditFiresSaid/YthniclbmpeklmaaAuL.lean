/- What is proved: what the document's audit functions come to (plain Lean over the printed functions), and the law AuditFires. -/
import Derived.Test.YthniclbmpeklmaaKAudx7
namespace Go.Proofs.Ythniclbmpeklmaa.KAud
open Go.RowKit Go.Proofs.YthniclbmpeklmaaW.PrintWords Go.Proofs.Ythniclbmpeklmaa.Au
open Go.Proofs.YthniclbmpeklmaaW.PrintWords renaming Ev → PE
set_option linter.unusedVariables false
set_option linter.unusedSimpArgs false
theorem Ev.self {α : Type} {g : Nat → Option α} {r : α} (h : ∀ k, g (k + 1) = some r) : PE g r := PE.step h (PE.now r)
/-- A loop that seeks. -/
theorem search {β : Type} {L : Nat → Int → Option β} (n s : Nat) (p : Nat → Bool) (val : Nat → β) (no : β) (hs : ∀ j, j < s → p j = false) (hsn : s ≤ n)
    (hit : ∀ i, s ≤ i → i < n → p i = true → PE (fun k => L k (i : Int)) (val i)) (miss : ∀ i, s ≤ i → i < n → p i = false → ∀ r, PE (fun k => L k ((i + 1 : Nat) : Int)) r → PE (fun k => L k (i : Int)) r) (fin : PE (fun k => L k (n : Int)) no) :
    PE (fun k => L k (s : Int)) (match firstN p n with | some i => val i | none => no) := by
  have go : ∀ d i, i + d = n → s ≤ i → (∀ j, j < i → p j = false) → PE (fun k => L k (i : Int)) (match firstN p n with | some i => val i | none => no) := by
    intro d
    induction d with
    | zero =>
      intro i hd hi hp
      obtain rfl : i = n := by omega
      rw [firstN_mk0 hp]
      exact fin
    | succ d ih =>
      intro i hd hi hp
      cases hq : p i with
      | true => rw [firstN_mk (by omega) hq hp]; exact hit i hi (by omega) hq
      | false => exact miss i hi (by omega) hq _ (ih (i + 1) (by omega) (by omega) (fun j hj => by
          rcases Nat.lt_or_ge j i with z | z
          · exact hp j z
          · obtain rfl : j = i := by omega
            exact hq))
  exact go (n - s) s (by omega) (Nat.le_refl _) hs
/-- A loop inside: it leaves with a value, or goes on behind. -/
theorem inner {β : Type} {L1 : Nat → Int → Option β} {C : Nat → Option β} (i : Nat) (q : Nat → Bool) (v : β) (hit : ∀ j, j < i → q j = true → PE (fun k => L1 k (j : Int)) v) (miss : ∀ j, j < i → q j = false → ∀ r, PE (fun k => L1 k ((j + 1 : Nat) : Int)) r → PE (fun k => L1 k (j : Int)) r)
    (fin : ∀ r, PE C r → PE (fun k => L1 k (i : Int)) r) : (anyN q i = true → PE (fun k => L1 k (0 : Int)) v) ∧ (anyN q i = false → ∀ r, PE C r → PE (fun k => L1 k (0 : Int)) r) := by
  have go : ∀ r, PE C r ∨ (∃ j, j < i ∧ q j = true) ∧ r = v → ((∃ j, j < i ∧ q j = true) → r = v) → PE (fun k => L1 k (0 : Int)) r := by
    intro r h1 h2
    have go2 : ∀ d j, j + d = i → (∀ j', j' < j → q j' = false) → PE (fun k => L1 k (j : Int)) r := by
      intro d
      induction d with
      | zero =>
        intro j hd hq
        obtain rfl : j = i := by omega
        rcases h1 with h1 | ⟨⟨j', a, b⟩, _⟩
        · exact fin r h1
        · rw [hq j' a] at b; cases b
      | succ d ih =>
        intro j hd hq
        cases hj : q j with
        | true => rw [h2 ⟨j, by omega, hj⟩]; exact hit j (by omega) hj
        | false => exact miss j (by omega) hj r (ih (j + 1) (by omega) (fun j' hj' => by
            rcases Nat.lt_or_ge j' j with z | z
            · exact hq j' z
            · obtain rfl : j' = j := by omega
              exact hj))
    exact go2 i 0 (by omega) (fun j hj => by omega)
  constructor
  · intro h
    obtain ⟨j, hj⟩ := anyN_true.1 h
    exact go v (.inr ⟨⟨j, hj⟩, rfl⟩) (fun _ => rfl)
  · intro h r hr
    exact go r (.inl hr) (fun ⟨j, hj⟩ => by rw [anyN_true.2 ⟨j, hj⟩] at h; cases h)
theorem w64 {i n : Nat} (h : i < n) (hn : n ≤ 1000000) : wrap64 ((i : Int) + 1) = ((i + 1 : Nat) : Int) := by unfold wrap64; omega
def toE (x : S50) : Au.Ev := ⟨x.f0, x.f1, x.f2, x.f3.f0, x.f3.f1, x.f4.f0, x.f4.f1, x.f5, x.f6, x.f7, x.f8, x.f9⟩
def ofS (x : S50) : S54 := ⟨x.f0, x.f1, x.f2, ⟨x.f3.f0, x.f3.f1⟩, ⟨x.f4.f0, x.f4.f1⟩, x.f5, x.f6, x.f7, x.f8, x.f9⟩
def zero50 : S50 := ⟨0, 0, 0, ⟨0, 0⟩, ⟨0, 0⟩, 0, 0, 0, false, 0⟩
def clS (x : S50) : S50 := if rightE (toE x) = true then x else zero50
/-- The events of a list, by their places. -/
def gc (c : List S50) (i : Nat) : Au.Ev := toE (c.getD i z50)
theorem rd_gc (c : List S50) (i : Nat) : (rd_T50 c (i : Int)).f0 = (gc c i).k ∧ (rd_T50 c (i : Int)).f1 = (gc c i).wk ∧ (rd_T50 c (i : Int)).f2 = (gc c i).op ∧ (rd_T50 c (i : Int)).f3.f0 = (gc c i).hn ∧ (rd_T50 c (i : Int)).f3.f1 = (gc c i).hg ∧ (rd_T50 c (i : Int)).f4.f0 = (gc c i).nn ∧ (rd_T50 c (i : Int)).f4.f1 = (gc c i).ng ∧ (rd_T50 c (i : Int)).f5 = (gc c i).t ∧ (rd_T50 c (i : Int)).f8 = (gc c i).y ∧ (rd_T50 c (i : Int)).f9 = (gc c i).er := by
  have h : rd_T50 c (i : Int) = c.getD i z50 := rfl
  rw [h]
  exact ⟨rfl, rfl, rfl, rfl, rfl, rfl, rfl, rfl, rfl, rfl⟩
theorem ofs_is (l : List S50) (hn : l.length ≤ 1000000) : PE (fun k => knelllaw11_Ofs.f k l) (l.map ofS) := by
  have go : ∀ d i, i + d = l.length → PE (fun k => knelllaw11_Ofs.l0 k ((l.take i).map ofS) l (l.length : Int) (i : Int)) (l.map ofS) := by
    intro d
    induction d with
    | zero =>
      intro i hd
      obtain rfl : i = l.length := by omega
      refine Ev.self fun k => ?_
      rw [knelllaw11_Ofs.l0, if_neg (by omega), List.take_length]
    | succ d ih =>
      intro i hd
      refine PE.step (f := fun k => knelllaw11_Ofs.l0 k ((l.take (i + 1)).map ofS) l (l.length : Int) ((i + 1 : Nat) : Int)) (fun k => ?_) (ih (i + 1) (by omega))
      have hi : i < l.length := by omega
      have hrd : rd_T50 l (i : Int) = l[i] := by show l.getD i z50 = l[i]; simp [List.getD, hi]
      rw [knelllaw11_Ofs.l0, if_pos (by omega), if_pos (by omega), if_pos (by omega)]
      unfold knelllaw11_Of.f
      simp only [Option.bind_some]
      rw [if_pos (by simp; omega), w64 hi hn, hrd, List.take_succ_eq_append_getElem hi, List.map_append]
      rfl
  exact go l.length 0 (by omega)
theorem clean_is (l : List S50) (hn : l.length ≤ 1000000) : PE (fun k => knellref14_Clean.f k l) (l.map clS) := by
  have go : ∀ d i, i + d = l.length → PE (fun k => knellref14_Clean.l0 k l ((l.take i).map clS) (i : Int)) (l.map clS) := by
    intro d
    induction d with
    | zero =>
      intro i hd
      obtain rfl : i = l.length := by omega
      refine Ev.self fun k => ?_
      rw [knellref14_Clean.l0, if_neg (by omega), List.take_length]
    | succ d ih =>
      intro i hd
      refine PE.step (f := fun k => knellref14_Clean.l0 k l ((l.take (i + 1)).map clS) ((i + 1 : Nat) : Int)) (fun k => ?_) (ih (i + 1) (by omega))
      have hi : i < l.length := by omega
      have hrd : rd_T50 l (i : Int) = l[i] := by show l.getD i z50 = l[i]; simp [List.getD, hi]
      rw [knellref14_Clean.l0, if_pos (by omega), if_pos (by omega)]
      unfold knellref11_Right.f
      simp only [Option.bind_some]
      rw [w64 hi hn, hrd, List.take_succ_eq_append_getElem hi, List.map_append]
      have hl : (List.map clS (List.take i l)).length < 1466015503701 := by simp; omega
      by_cases hr : Go.Proofs.Ythniclbmpeklmaa.Ev.evRight l[i].f0 l[i].f1 l[i].f2 l[i].f3.f0 l[i].f3.f1 l[i].f4.f0 l[i].f4.f1 l[i].f5 l[i].f6 l[i].f7 l[i].f8 l[i].f9 = true
      · rw [if_pos hr, if_pos hl]
        have : clS l[i] = l[i] := if_pos hr
        simp only [List.map_cons, List.map_nil, this]
      · rw [if_neg hr, if_pos hl]
        have : clS l[i] = zero50 := if_neg hr
        simp only [List.map_cons, List.map_nil, this]
        rfl
  exact go l.length 0 (by omega)
theorem gc_clean (l : List S50) (i : Nat) (hi : i < l.length) : gc (l.map clS) i = gOf (l.map toE) i := by
  unfold gc gOf
  rw [List.getD_eq_getElem?_getD, List.getD_eq_getElem?_getD, List.getElem?_map, List.getElem?_map, List.getElem?_eq_getElem hi]
  simp only [Option.map_some, Option.getD_some]
  unfold clS clE
  split <;> rfl
section
variable (c : List S50) (hn : c.length ≤ 1000000)
include hn
theorem twice_is : PE (fun k => knellref14_Twice.l0 k c 0) (twiceI (gc c) c.length) := by
  unfold twiceI
  have h := search (L := fun k i => knellref14_Twice.l0 k c i) c.length 0 (twiceP (gc c)) (fun i => (i : Int)) (-1) (fun j hj => by omega) (by omega) ?_ ?_ ?_
  · cases hf : firstN (twiceP (gc c)) c.length <;> rw [hf] at h <;> exact h
  all_goals try intro i h1 hi hp
  rotate_left
  rotate_left
  · exact Ev.self fun k => by rw [knellref14_Twice.l0, if_neg (by omega)]
  all_goals
    have hin := inner (L1 := fun k j => knellref14_Twice.l1 k c (i : Int) j) (C := fun k => knellref14_Twice.l0 k c ((i + 1 : Nat) : Int)) i (fun j => (gc c i).k == 4 && ((gc c j).k == 4 && decide ((gc c j).h = (gc c i).h))) (i : Int) (fun j hj hq => by
        simp only [Bool.and_eq_true, beq_iff_eq, decide_eq_true_eq] at hq
        obtain ⟨a0, a1, a2, a3, a4, _⟩ := rd_gc c i
        obtain ⟨b0, b1, b2, b3, b4, _⟩ := rd_gc c j
        have e1 := congrArg Prod.fst hq.2.2
        have e2 := congrArg Prod.snd hq.2.2
        simp only at e1 e2
        refine Ev.self fun k => ?_
        rw [knellref14_Twice.l1, if_pos (by omega), if_pos (by omega), if_pos (by omega), a0, if_pos hq.1, if_pos (by omega), if_pos (by omega), b0, if_pos hq.2.1, a3, b3, a4, b4, e1, e2]
        simp) (fun j hj hq r hr => by
        obtain ⟨a0, a1, a2, a3, a4, _⟩ := rd_gc c i
        obtain ⟨b0, b1, b2, b3, b4, _⟩ := rd_gc c j
        refine PE.step (fun k => ?_) hr
        rw [knellref14_Twice.l1, if_pos (by omega), if_pos (by omega), if_pos (by omega), a0, w64 (show j < c.length by omega) hn]
        by_cases k4 : (gc c i).k = 4
        · rw [if_pos k4, if_pos (by omega), if_pos (by omega), b0]
          by_cases k5 : (gc c j).k = 4
          · rw [if_pos k5, a3, b3, a4, b4, if_neg]
            intro q
            simp only [Bool.and_eq_true, beq_iff_eq] at q
            have hh : (gc c j).h = (gc c i).h := Prod.ext q.1.symm q.2.symm
            simp [k4, k5, hh] at hq
          · rw [if_neg k5]
        · rw [if_neg k4]) (fun r hr => by
        refine PE.step (fun k => ?_) hr
        rw [knellref14_Twice.l1, if_neg (by omega), w64 hi hn])
  · have hp' : anyN (fun j => (gc c i).k == 4 && ((gc c j).k == 4 && decide ((gc c j).h = (gc c i).h))) i = true := by
      unfold twiceP at hp
      rw [Bool.and_eq_true] at hp
      rw [← hp.2]
      exact anyN_congr fun j _ => by rw [hp.1]; rfl
    exact PE.step (fun k => by rw [knellref14_Twice.l0, if_pos (by omega)]) (hin.1 hp')
  · intro r hr
    have hp' : anyN (fun j => (gc c i).k == 4 && ((gc c j).k == 4 && decide ((gc c j).h = (gc c i).h))) i = false := by
      unfold twiceP at hp
      cases hk : (gc c i).k == 4 with
      | false =>
        cases ha : anyN (fun j => false && ((gc c j).k == 4 && decide ((gc c j).h = (gc c i).h))) i with
        | false => rfl
        | true => obtain ⟨j, _, q⟩ := anyN_true.1 ha; cases q
      | true =>
        rw [hk, Bool.true_and] at hp
        rw [← hp]
        exact anyN_congr fun j _ => rfl
    exact PE.step (fun k => by rw [knellref14_Twice.l0, if_pos (by omega)]) (hin.2 hp' r hr)
theorem made_is (h : Ha) : PE (fun k => knellref14_Made.f k c h.1 h.2) (oI (madeN (gc c) c.length h)) := by
  have hs := search (L := fun k i => knellref14_Made.l0 k c i h.1 h.2) c.length 0 (mkP (gc c) h) (fun i => (i : Int)) (-1) (fun j hj => by omega) (by omega) ?_ ?_ ?_
  · unfold madeN
    cases hf : firstN (mkP (gc c) h) c.length <;> rw [hf] at hs <;> exact hs
  · intro i _ hi hp
    obtain ⟨a0, a1, a2, a3, a4, a5, a6, a7, a8, a9⟩ := rd_gc c i
    unfold mkP mk1 at hp
    simp only [Bool.and_eq_true, beq_iff_eq, decide_eq_true_eq, Bool.or_eq_true] at hp
    obtain ⟨⟨⟨k3, e0⟩, ho⟩, hh⟩ := hp
    refine Ev.self fun k => ?_
    rw [knellref14_Made.l0, if_pos (by omega), if_pos (by omega)]
    unfold knellref14_makes.f
    rw [a0, if_pos k3, a2, a9, a5, a6, e0, ← hh]
    rcases ho with ho | ho
    · rw [if_pos ho]; simp
    · rw [if_neg (by omega), if_pos ho]; simp
  · intro i _ hi hp r hr
    obtain ⟨a0, a1, a2, a3, a4, a5, a6, a7, a8, a9⟩ := rd_gc c i
    refine PE.step (fun k => ?_) hr
    rw [knellref14_Made.l0, if_pos (by omega), if_pos (by omega), w64 hi hn]
    unfold knellref14_makes.f
    rw [a0, a2, a9, a5, a6]
    unfold mkP mk1 at hp
    by_cases k3 : (gc c i).k = 3
    · rw [if_pos k3]
      have hb : ∀ o : Bool, o = true → (o = ((gc c i).op == 1 || (gc c i).op == 3)) → (((some ((gc c i).er == 0) : Option Bool).bind fun t151 => (if t151 = true then (if (((gc c i).nn == h.1 && ((gc c i).ng == h.2))) = true then (some (i : Int)) else (knellref14_Made.l0 k c ((i + 1 : Nat) : Int) h.1 h.2)) else (knellref14_Made.l0 k c ((i + 1 : Nat) : Int) h.1 h.2)))) = knellref14_Made.l0 k c ((i + 1 : Nat) : Int) h.1 h.2 := by
        intro o ho1 ho2
        simp only [Option.bind_some]
        by_cases e0 : (gc c i).er = 0
        · rw [if_pos (by simpa using e0), if_neg]
          intro q
          simp only [Bool.and_eq_true, beq_iff_eq] at q
          have hh : (gc c i).new = h := Prod.ext q.1 q.2
          rw [← ho2, ho1] at hp
          simp [k3, e0, hh] at hp
        · rw [if_neg (by simpa using e0)]
      by_cases o1 : (gc c i).op = 1
      · rw [if_pos o1]; exact hb true rfl (by simp [o1])
      · rw [if_neg o1]
        by_cases o3 : (gc c i).op = 3
        · rw [if_pos o3]; exact hb true rfl (by simp [o3])
        · rw [if_neg o3]; simp
    · rw [if_neg k3]; simp
  · exact Ev.self fun k => by rw [knellref14_Made.l0, if_neg (by omega)]
theorem early_is' : PE (fun k => knellref14_Early.l0 k c 0) (earlyI (gc c) c.length) := by
  unfold earlyI
  have h := search (L := fun k i => knellref14_Early.l0 k c i) c.length 0 (earlyP (gc c)) (fun i => (i : Int)) (-1) (fun j hj => by omega) (by omega) ?_ ?_ ?_
  · cases hf : firstN (earlyP (gc c)) c.length <;> rw [hf] at h <;> exact h
  · intro i _ hi hp
    obtain ⟨a0, a1, a2, a3, a4, a5, a6, a7, a8, a9⟩ := rd_gc c i
    unfold earlyP at hp
    rw [Bool.and_eq_true, beq_iff_eq] at hp
    obtain ⟨k4, hp⟩ := hp
    have hm := made_is c hn (gc c i).h
    refine PE.step (f := fun k => (knellref14_Made.f k c (gc c i).h.1 (gc c i).h.2).bind fun t158 => (if t158 < 0 then (some (i : Int)) else (if t158 > (i : Int) then (some (i : Int)) else (if 0 ≤ t158 then (if t158 < (c.length : Int) then (if ((rd_T50 c t158).f5) > ((rd_T50 c (i : Int)).f5) then (some (i : Int)) else (knellref14_Early.l0 k c (wrap64 ((i : Int) + 1)))) else (none)) else (none))))) (fun k => by rw [knellref14_Early.l0, if_pos (by omega), if_pos (by omega), a0, if_pos k4, a3, a4]) (PE.bind hm ?_)
    cases hmm : madeN (gc c) c.length (gc c i).h with
    | none => rw [show oI (none : Option Nat) = -1 from rfl]; exact Ev.self fun k => by rw [if_pos (by omega)]
    | some m =>
      obtain ⟨m1, m2, m3⟩ := firstN_some hmm
      rw [show oI (some m) = (m : Int) from rfl]
      refine Ev.self fun k => ?_
      rw [if_neg (by omega)]
      by_cases hgt : (m : Int) > (i : Int)
      · rw [if_pos hgt]
      · rw [if_neg hgt, if_pos (by omega), if_pos (by omega), if_pos]
        have hne : m ≠ i := fun e => by have := mkP_k m2; rw [e, k4] at this; omega
        rw [show madeN (gc c) i (gc c i).h = some m from firstN_cut hmm (by omega)] at hp
        rw [(rd_gc c m).2.2.2.2.2.2.2.1, a7]
        simpa using hp
  · intro i _ hi hp r hr
    obtain ⟨a0, a1, a2, a3, a4, a5, a6, a7, a8, a9⟩ := rd_gc c i
    by_cases k4 : (gc c i).k = 4
    · have hm := made_is c hn (gc c i).h
      refine PE.step (f := fun k => (knellref14_Made.f k c (gc c i).h.1 (gc c i).h.2).bind fun t158 => (if t158 < 0 then (some (i : Int)) else (if t158 > (i : Int) then (some (i : Int)) else (if 0 ≤ t158 then (if t158 < (c.length : Int) then (if ((rd_T50 c t158).f5) > ((rd_T50 c (i : Int)).f5) then (some (i : Int)) else (knellref14_Early.l0 k c (wrap64 ((i : Int) + 1)))) else (none)) else (none))))) (fun k => by rw [knellref14_Early.l0, if_pos (by omega), if_pos (by omega), a0, if_pos k4, a3, a4]) (PE.bind hm ?_)
      unfold earlyP at hp
      rw [beq_iff_eq.2 k4, Bool.true_and] at hp
      cases hmi : madeN (gc c) i (gc c i).h with
      | none => rw [hmi] at hp; cases hp
      | some m =>
        rw [hmi] at hp
        obtain ⟨m1, m2, m3⟩ := firstN_some hmi
        rw [show madeN (gc c) c.length (gc c i).h = some m from firstN_mk (by omega) m2 m3, show oI (some m) = (m : Int) from rfl]
        refine PE.congr (fun k => ?_) hr
        rw [if_neg (by omega), if_neg (by omega), if_pos (by omega), if_pos (by omega), (rd_gc c m).2.2.2.2.2.2.2.1, a7, if_neg (by simpa using hp), w64 hi hn]
    · refine PE.step (fun k => ?_) hr
      rw [knellref14_Early.l0, if_pos (by omega), if_pos (by omega), a0, if_neg k4, w64 hi hn]
  · exact Ev.self fun k => by rw [knellref14_Early.l0, if_neg (by omega)]
end
end Go.Proofs.Ythniclbmpeklmaa.KAud
