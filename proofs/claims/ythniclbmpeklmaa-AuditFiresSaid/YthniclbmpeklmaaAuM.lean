/- What is proved: what the document's End and Wrong come to, and the law AuditFires; plain Lean over the printed functions. -/
import Derived.Test.YthniclbmpeklmaaAuL
namespace Go.Proofs.Ythniclbmpeklmaa.KAud
open Go.RowKit Go.Proofs.YthniclbmpeklmaaW.PrintWords Go.Proofs.Ythniclbmpeklmaa.Au
open Go.Proofs.YthniclbmpeklmaaW.PrintWords renaming Ev → PE
set_option linter.unusedVariables false
set_option linter.unusedSimpArgs false
section
variable (c : List S50) (hn : c.length ≤ 1000000)
include hn
theorem end_is (b : Nat) (hb : b < c.length) : PE (fun k => knellref14_End.f k c (b : Int)) (oI (endN (gc c) c.length b)) := by
  have key : ∀ i, b < i → i < c.length → (gc c i).wk = (gc c b).wk → ∀ k, knellref14_End.l0 (k + 1) c (b : Int) (i : Int) = knellref14_End.j1 k c (b : Int) (i : Int) (if (gc c i).k = 2 then false else ((gc c i).k != 5)) (gc c i).k (gc c i).wk (gc c i).op (gc c i).hn (gc c i).hg (gc c i).nn (gc c i).ng (gc c i).t (rd_T50 c (i : Int)).f6 (rd_T50 c (i : Int)).f7 (gc c i).y (gc c i).er := by
    intro i h1 hi hw k
    obtain ⟨a0, a1, a2, a3, a4, a5, a6, a7, a8, a9⟩ := rd_gc c i
    rw [knellref14_End.l0, if_pos (by omega), if_pos (by omega), if_pos (by omega), if_pos (by omega), a0, a1, a2, a3, a4, a5, a6, a7, a8, a9, (rd_gc c b).2.1, if_pos hw]
    by_cases k2 : (gc c i).k = 2
    · rw [if_pos k2, if_pos k2]
    · rw [if_neg k2, if_neg k2]
  have hs := search (L := fun k i => knellref14_End.l0 k c (b : Int) i) c.length (b + 1) (endP (gc c) b) (fun i => if (gc c i).k = 5 then (i : Int) else -1) (-1) (fun j hj => by unfold endP; rw [decide_eq_false (by omega)]; rfl) (by omega) ?_ ?_ ?_
  · unfold endN
    have hstart : PE (fun k => knellref14_End.f k c (b : Int)) (match firstN (endP (gc c) b) c.length with | some i => (if (gc c i).k = 5 then (i : Int) else -1) | none => -1) := by
      refine PE.congr (fun k => ?_) hs
      unfold knellref14_End.f
      rw [w64 hb hn]
    cases hf : firstN (endP (gc c) b) c.length with
    | none => rw [hf] at hstart; exact hstart
    | some i =>
      rw [hf] at hstart
      simp only [Option.bind_some] at hstart ⊢
      by_cases k5 : (gc c i).k = 5
      · rw [if_pos k5] at hstart ⊢; exact hstart
      · rw [if_neg k5] at hstart ⊢; exact hstart
  · intro i h1 hi hp
    unfold endP at hp
    simp only [Bool.and_eq_true, Bool.or_eq_true, beq_iff_eq, decide_eq_true_eq] at hp
    obtain ⟨hbi, hw, hk⟩ := hp
    refine PE.step (key i hbi hi hw) (Ev.self fun k => ?_)
    rw [knellref14_End.j1]
    rcases hk with k2 | ⟨k5, ho⟩
    · rw [if_pos k2, if_neg (by decide), if_pos k2, if_neg (by omega)]
    · have k2 : ¬ (gc c i).k = 2 := by omega
      have hx : (if (gc c i).k = 2 then false else ((gc c i).k != 5)) = false := by rw [if_neg k2, k5]; rfl
      rw [hx, if_neg (by decide), if_neg k2, if_pos (by omega), if_pos (by omega), (rd_gc c b).2.2.1, if_pos ho, if_pos k5]
  · intro i h1 hi hp r hr
    obtain ⟨a0, a1, a2, a3, a4, a5, a6, a7, a8, a9⟩ := rd_gc c i
    by_cases hw : (gc c i).wk = (gc c b).wk
    · refine PE.step (key i (by omega) hi hw) (PE.step (fun k => ?_) hr)
      rw [knellref14_End.j1, w64 hi hn]
      unfold endP at hp
      rw [decide_eq_true (show b < i by omega), decide_eq_true hw] at hp
      simp only [Bool.true_and, Bool.or_eq_false_iff, beq_eq_false_iff_ne] at hp
      obtain ⟨k2, hp⟩ := hp
      rw [if_neg k2]
      by_cases k5 : (gc c i).k = 5
      · rw [k5, if_neg (by decide), if_neg (by decide), if_pos (by omega), if_pos (by omega), (rd_gc c b).2.2.1, if_neg]
        intro ho
        simp [k5, ho] at hp
      · rw [if_pos (by simpa using k5)]
    · have e1 : ∀ k, knellref14_End.l0 (k + 1) c (b : Int) (i : Int) = knellref14_End.j1 k c (b : Int) (i : Int) true (gc c i).k (gc c i).wk (gc c i).op (gc c i).hn (gc c i).hg (gc c i).nn (gc c i).ng (gc c i).t (rd_T50 c (i : Int)).f6 (rd_T50 c (i : Int)).f7 (gc c i).y (gc c i).er := by
        intro k
        rw [knellref14_End.l0, if_pos (by omega), if_pos (by omega), if_pos (by omega), if_pos (by omega), a0, a1, a2, a3, a4, a5, a6, a7, a8, a9, (rd_gc c b).2.1, if_neg hw]
      refine PE.step e1 (PE.step (fun k => ?_) hr)
      rw [knellref14_End.j1, if_pos rfl, w64 hi hn]
  · exact Ev.self fun k => by rw [knellref14_End.l0, if_neg (by omega)]
/-- What Wrong asks of an earlier place. -/
def wrongQ (g : Nat → Au.Ev) (n i b : Nat) : Bool := (g b).k == 2 && (decide ((g b).h = (g i).h) && (match endN g n b with | none => false | some e => decide (e ≤ i) && overE (g b) (g e)))
omit hn in
theorem wrongQ_is (g : Nat → Au.Ev) (n i b : Nat) (hi : i < n) (hk : (g i).k = 4) : wrongQ g n i b = ((g b).k == 2 && (decide ((g b).h = (g i).h) && (match endN g i b with | none => false | some e => overE (g b) (g e)))) := by
  unfold wrongQ
  congr 1
  congr 1
  cases he : endN g i b with
  | some e =>
    have h1 := endN_lt he
    rw [endN_cut he (show e < n by omega)]
    simp only
    rw [decide_eq_true (by omega)]
    rfl
  | none =>
    cases hn' : endN g n b with
    | none => rfl
    | some e =>
      have h1 := endN_lt hn'
      simp only
      have hei : e ≠ i := fun z => by rw [z, hk] at h1; omega
      by_cases hlt : e < i
      · rw [endN_cut hn' hlt] at he; cases he
      · rw [decide_eq_false (by omega)]; rfl
theorem wrong_l1 (i : Nat) (hi : i < c.length) (k4 : (gc c i).k = 4) (j : Nat) (hj : j < i) :
    (wrongQ (gc c) c.length i j = true → PE (fun k => knellref14_Wrong.l1 k c (i : Int) (j : Int)) (i : Int)) ∧
    (wrongQ (gc c) c.length i j = false → ∀ r, PE (fun k => knellref14_Wrong.l1 k c (i : Int) ((j + 1 : Nat) : Int)) r → PE (fun k => knellref14_Wrong.l1 k c (i : Int) (j : Int)) r) := by
  obtain ⟨a0, a1, a2, a3, a4, a5, a6, a7, a8, a9⟩ := rd_gc c i
  obtain ⟨b0, b1, b2, b3, b4, b5, b6, b7, b8, b9⟩ := rd_gc c j
  have e1 : ∀ k, knellref14_Wrong.l1 (k + 1) c (i : Int) (j : Int) = knellref14_Wrong.j2 k c (i : Int) (j : Int) true := fun k => by
    rw [knellref14_Wrong.l1, if_pos (by omega), if_pos (by omega), if_pos (by omega), a0, k4]; rfl
  have next : ∀ r, PE (fun k => knellref14_Wrong.l1 k c (i : Int) ((j + 1 : Nat) : Int)) r → PE (fun k => knellref14_Wrong.j3 k c (i : Int) (j : Int) true) r := fun r hr =>
    PE.step (fun k => by rw [knellref14_Wrong.j3, if_pos rfl, w64 (show j < c.length by omega) hn]) hr
  unfold wrongQ
  by_cases k2 : (gc c j).k = 2
  · by_cases hh : (gc c j).h = (gc c i).h
    · have hh1 : (gc c j).hn = (gc c i).hn := congrArg Prod.fst hh
      have hh2 : (gc c j).hg = (gc c i).hg := congrArg Prod.snd hh
      have e2 : ∀ k, knellref14_Wrong.j2 (k + 1) c (i : Int) (j : Int) true = knellref14_Wrong.j3 k c (i : Int) (j : Int) false := fun k => by
        rw [knellref14_Wrong.j2, if_pos rfl, if_pos (by omega), if_pos (by omega), b0, if_pos k2, if_pos (by omega), if_pos (by omega), b3, a3, b4, a4, hh1, hh2]
        simp
      rw [beq_iff_eq.2 k2, decide_eq_true hh]
      simp only [Bool.true_and]
      have he := end_is c hn j (by omega)
      have e3 : ∀ r, PE (fun k => (if oI (endN (gc c) c.length j) < 0 then (knellref14_Wrong.j4 k c (i : Int) (j : Int) (oI (endN (gc c) c.length j)) true) else (knellref14_Wrong.j4 k c (i : Int) (j : Int) (oI (endN (gc c) c.length j)) (decide (oI (endN (gc c) c.length j) > (i : Int)))))) r → PE (fun k => knellref14_Wrong.l1 k c (i : Int) (j : Int)) r := fun r hr =>
        PE.step e1 (PE.step e2 (PE.step (fun k => by rw [knellref14_Wrong.j3, if_neg (by decide)]) (PE.bind he hr)))
      have j4t : ∀ x r, PE (fun k => knellref14_Wrong.l1 k c (i : Int) ((j + 1 : Nat) : Int)) r → PE (fun k => knellref14_Wrong.j4 k c (i : Int) (j : Int) x true) r := fun x r hr =>
        PE.step (fun k => by rw [knellref14_Wrong.j4, if_pos rfl, w64 (show j < c.length by omega) hn]) hr
      cases hen : endN (gc c) c.length j with
      | none =>
        rw [hen, show oI (none : Option Nat) = -1 from rfl] at e3
        refine ⟨fun h => (by cases h), fun _ r hr => e3 r ?_⟩
        exact PE.congr (fun k => by rw [if_pos (by omega)]) (j4t _ r hr)
      | some e =>
        have hlt := endN_lt hen
        rw [hen, show oI (some e) = (e : Int) from rfl] at e3
        obtain ⟨c0, c1, c2, c3, c4, c5, c6, c7, c8, c9⟩ := rd_gc c e
        by_cases hei : e ≤ i
        · have g0 : decide ((e : Int) > (i : Int)) = false := decide_eq_false (by omega)
          have e4 : ∀ k, knellref14_Wrong.j4 (k + 1) c (i : Int) (j : Int) (e : Int) false = if overE (gc c j) (gc c e) = true then some (i : Int) else knellref14_Wrong.l1 k c (i : Int) ((j + 1 : Nat) : Int) := fun k => by
            rw [knellref14_Wrong.j4, if_neg (by decide), if_pos (by omega), if_pos (by omega), b2, w64 (show j < c.length by omega) hn, c8, c9]
            unfold overE
            by_cases o2 : (gc c j).op = 2
            · rw [if_pos o2, if_pos (by omega), if_pos (by omega), o2]
              cases hy : (gc c e).y with
              | true => simp
              | false => simp
            · rw [if_neg o2]
              by_cases o3 : (gc c j).op = 3
              · rw [if_pos o3, if_pos (by omega), if_pos (by omega), o3]
                by_cases e0 : (gc c e).er = 0
                · simp [e0]
                · simp [e0]
              · rw [if_neg o3]; simp [o2, o3]
          simp only [decide_eq_true hei, Bool.true_and]
          constructor
          · intro h
            refine e3 _ (PE.congr (fun k => by rw [if_neg (by omega), g0]) (Ev.self fun k => ?_))
            rw [e4, if_pos h]
          · intro h r hr
            refine e3 _ (PE.congr (fun k => by rw [if_neg (by omega), g0]) (PE.step (fun k => ?_) hr))
            rw [e4, if_neg (by rw [h]; decide)]
        · have g0 : decide ((e : Int) > (i : Int)) = true := decide_eq_true (by omega)
          simp only [decide_eq_false hei, Bool.false_and]
          refine ⟨fun h => (by cases h), fun _ r hr => e3 r ?_⟩
          exact PE.congr (fun k => by rw [if_neg (by omega), g0]) (j4t _ r hr)
    · have e2 : ∀ k, knellref14_Wrong.j2 (k + 1) c (i : Int) (j : Int) true = knellref14_Wrong.j3 k c (i : Int) (j : Int) true := fun k => by
        rw [knellref14_Wrong.j2, if_pos rfl, if_pos (by omega), if_pos (by omega), b0, if_pos k2, if_pos (by omega), if_pos (by omega), b3, a3, b4, a4]
        congr 1
        by_cases q1 : (gc c j).hn = (gc c i).hn
        · have q2 : (gc c j).hg ≠ (gc c i).hg := fun z => hh (Prod.ext q1 z)
          simp [q1, q2]
        · simp [q1]
      rw [decide_eq_false hh]
      simp only [Bool.false_and, Bool.and_false]
      exact ⟨fun h => (by cases h), fun _ r hr => PE.step e1 (PE.step e2 (next r hr))⟩
  · have e2 : ∀ k, knellref14_Wrong.j2 (k + 1) c (i : Int) (j : Int) true = knellref14_Wrong.j3 k c (i : Int) (j : Int) true := fun k => by
      rw [knellref14_Wrong.j2, if_pos rfl, if_pos (by omega), if_pos (by omega), b0, if_neg k2]
    rw [beq_eq_false_iff_ne.2 k2]
    simp only [Bool.false_and]
    exact ⟨fun h => (by cases h), fun _ r hr => PE.step e1 (PE.step e2 (next r hr))⟩
theorem wrong_is' : PE (fun k => knellref14_Wrong.l0 k c 0) (wrongI (gc c) c.length) := by
  unfold wrongI
  have h := search (L := fun k i => knellref14_Wrong.l0 k c i) c.length 0 (wrongP (gc c)) (fun i => (i : Int)) (-1) (fun j hj => by omega) (by omega) ?_ ?_ ?_
  · cases hf : firstN (wrongP (gc c)) c.length <;> rw [hf] at h <;> exact h
  all_goals try intro i h1 hi hp
  rotate_left
  rotate_left
  · exact Ev.self fun k => by rw [knellref14_Wrong.l0, if_neg (by omega)]
  all_goals
    have hfin : ∀ r, PE (fun k => knellref14_Wrong.l0 k c ((i + 1 : Nat) : Int)) r → PE (fun k => knellref14_Wrong.j2 k c (i : Int) (i : Int) false) r := fun r hr =>
      PE.step (fun k => by rw [knellref14_Wrong.j2, if_neg (by decide), w64 hi hn]) hr
  · have k4 : (gc c i).k = 4 := by unfold wrongP at hp; rw [Bool.and_eq_true, beq_iff_eq] at hp; exact hp.1
    have hin := inner (L1 := fun k j => knellref14_Wrong.l1 k c (i : Int) j) (C := fun k => knellref14_Wrong.l0 k c ((i + 1 : Nat) : Int)) i (wrongQ (gc c) c.length i) (i : Int) (fun j hj hq => (wrong_l1 c hn i hi k4 j hj).1 hq) (fun j hj hq r hr => (wrong_l1 c hn i hi k4 j hj).2 hq r hr) (fun r hr => PE.step (fun k => by rw [knellref14_Wrong.l1, if_neg (by omega)]) (hfin r hr))
    have hp' : anyN (wrongQ (gc c) c.length i) i = true := by
      unfold wrongP at hp
      rw [beq_iff_eq.2 k4, Bool.true_and] at hp
      rw [← hp]
      exact anyN_congr fun j _ => wrongQ_is (gc c) c.length i j hi k4
    exact PE.step (fun k => by rw [knellref14_Wrong.l0, if_pos (by omega)]) (hin.1 hp')
  · intro r hr
    by_cases k4 : (gc c i).k = 4
    · have hin := inner (L1 := fun k j => knellref14_Wrong.l1 k c (i : Int) j) (C := fun k => knellref14_Wrong.l0 k c ((i + 1 : Nat) : Int)) i (wrongQ (gc c) c.length i) (i : Int) (fun j hj hq => (wrong_l1 c hn i hi k4 j hj).1 hq) (fun j hj hq r hr => (wrong_l1 c hn i hi k4 j hj).2 hq r hr) (fun r hr => PE.step (fun k => by rw [knellref14_Wrong.l1, if_neg (by omega)]) (hfin r hr))
      have hp' : anyN (wrongQ (gc c) c.length i) i = false := by
        unfold wrongP at hp
        rw [beq_iff_eq.2 k4, Bool.true_and] at hp
        rw [← hp]
        exact anyN_congr fun j _ => wrongQ_is (gc c) c.length i j hi k4
      exact PE.step (fun k => by rw [knellref14_Wrong.l0, if_pos (by omega)]) (hin.2 hp' r hr)
    · refine PE.step (fun k => by rw [knellref14_Wrong.l0, if_pos (by omega)]) ?_
      rcases Nat.eq_zero_or_pos i with h0 | h0
      · exact PE.step (fun k => by rw [knellref14_Wrong.l1, if_neg (by omega)]) (by
          have := hfin r hr
          rw [h0] at this ⊢
          exact this)
      · obtain ⟨a0, _⟩ := rd_gc c i
        refine PE.step (f := fun k => knellref14_Wrong.j2 k c (i : Int) 0 false) (fun k => by rw [knellref14_Wrong.l1, if_pos (by omega), if_pos (by omega), if_pos (by omega), a0, beq_eq_false_iff_ne.2 k4]) ?_
        exact PE.step (fun k => by rw [knellref14_Wrong.j2, if_neg (by decide), w64 hi hn]) hr
  
end
/-- The answers hang on the events alone. -/
theorem madeN_congr {g g' : Nat → Au.Ev} {n : Nat} (h : ∀ i, i < n → g i = g' i) (x : Ha) : madeN g n x = madeN g' n x := by
  unfold madeN
  exact firstN_congr fun j hj => by unfold mkP; rw [h j hj]
theorem endN_congr {g g' : Nat → Au.Ev} {n : Nat} (h : ∀ i, i < n → g i = g' i) (b : Nat) (hb : b < n) : endN g n b = endN g' n b := by
  unfold endN
  rw [firstN_congr (q := endP g' b) fun j hj => by unfold endP; rw [h j hj, h b hb]]
  cases hf : firstN (endP g' b) n with
  | none => rfl
  | some i => simp only [Option.bind_some]; rw [h i (firstN_some hf).1]
theorem twiceI_congr {g g' : Nat → Au.Ev} {n : Nat} (h : ∀ i, i < n → g i = g' i) : twiceI g n = twiceI g' n := by
  unfold twiceI
  rw [firstN_congr (q := twiceP g') fun i hi => by
    unfold twiceP
    rw [h i hi]
    congr 1
    exact anyN_congr fun j hj => by rw [h j (by omega)]]
theorem earlyI_congr {g g' : Nat → Au.Ev} {n : Nat} (h : ∀ i, i < n → g i = g' i) : earlyI g n = earlyI g' n := by
  unfold earlyI
  rw [firstN_congr (q := earlyP g') fun i hi => by
    unfold earlyP
    rw [h i hi, madeN_congr (fun j hj => h j (by omega))]
    congr 1
    cases hm : madeN g' i (g' i).h with
    | none => rfl
    | some m => simp only; rw [h m (by have := (firstN_some hm).1; omega)]]
theorem wrongI_congr {g g' : Nat → Au.Ev} {n : Nat} (h : ∀ i, i < n → g i = g' i) : wrongI g n = wrongI g' n := by
  unfold wrongI
  rw [firstN_congr (q := wrongP g') fun i hi => by
    unfold wrongP
    rw [h i hi]
    congr 1
    exact anyN_congr fun b hb => by
      rw [h b (by omega), endN_congr (fun j hj => h j (by omega)) b hb]
      congr 2
      cases he : endN g' i b with
      | none => rfl
      | some e => simp only; rw [h e (by have := endN_lt he; omega)]]
theorem ofS_ev (x : S50) : audit_Twice.ev (ofS x) = toE x := rfl
theorem wf_ofS {l : List S50} (hw : ∀ x ∈ l, wfB (toE x) = true) : ((l.map ofS).all fun x => wfB (audit_Twice.ev x)) = true := by
  rw [List.all_eq_true]
  intro x hx
  obtain ⟨y, hy, rfl⟩ := List.mem_map.1 hx
  exact hw y hy
theorem speaks14 : knelllaw14_speaks.f = some true := by decide +kernel
theorem AuditFires (l0 : List S50) (hw : ∀ x ∈ l0, wfB (toE x) = true) : ∃ k, knelllaw14_AuditFires.f k l0 = some true := by
  by_cases h60 : (l0.length : Int) > 60
  · refine ⟨1, ?_⟩
    unfold knelllaw14_AuditFires.f
    rw [speaks14]
    simp only [Option.bind_some, if_true]
    rw [decide_eq_true h60, knelllaw14_AuditFires.j0, if_pos rfl, speaks14]
    rfl
  · have hn : l0.length ≤ 1000000 := by omega
    have hc : (l0.map clS).length ≤ 1000000 := by rw [List.length_map]; exact hn
    have hg : ∀ i, i < l0.length → gc (l0.map clS) i = gOf (l0.map toE) i := fun i hi => gc_clean l0 i hi
    have hlen : (l0.map clS).length = l0.length := List.length_map _
    have e1 : audit_Twice.f (l0.map ofS) = some (twiceI (gOf (l0.map toE)) l0.length) := by
      unfold audit_Twice.f
      rw [if_pos ⟨by rw [List.length_map]; exact hn, wf_ofS hw⟩, List.map_map, List.length_map]
      rfl
    have e2 : audit_Early.f (l0.map ofS) = some (earlyI (gOf (l0.map toE)) l0.length) := by
      unfold audit_Early.f
      rw [if_pos ⟨by rw [List.length_map]; exact hn, wf_ofS hw⟩, List.map_map, List.length_map]
      rfl
    have e3 : audit_Wrong.f (l0.map ofS) = some (wrongI (gOf (l0.map toE)) l0.length) := by
      unfold audit_Wrong.f
      rw [if_pos ⟨by rw [List.length_map]; exact hn, wf_ofS hw⟩, List.map_map, List.length_map]
      rfl
    have r1 : PE (fun k => knellref14_Twice.f k l0) (twiceI (gOf (l0.map toE)) l0.length) := by
      have := PE.bind (f := fun k t => knellref14_Twice.l0 k t 0) (clean_is l0 hn) (twice_is _ hc)
      rw [hlen, twiceI_congr hg] at this
      exact this
    have r2 : PE (fun k => knellref14_Early.f k l0) (earlyI (gOf (l0.map toE)) l0.length) := by
      have := PE.bind (f := fun k t => knellref14_Early.l0 k t 0) (clean_is l0 hn) (early_is' _ hc)
      rw [hlen, earlyI_congr hg] at this
      exact this
    have r3 : PE (fun k => knellref14_Wrong.f k l0) (wrongI (gOf (l0.map toE)) l0.length) := by
      have := PE.bind (f := fun k t => knellref14_Wrong.l0 k t 0) (clean_is l0 hn) (wrong_is' _ hc)
      rw [hlen, wrongI_congr hg] at this
      exact this
    have main : PE (fun k => knelllaw14_AuditFires.f k l0) true := by
      refine PE.congr (f := fun k => knelllaw14_AuditFires.j0 k l0 false) (fun k => ?_) (PE.step (fun k => by rw [knelllaw14_AuditFires.j0, if_neg (by decide)]) (PE.bind (ofs_is l0 hn) ?_))
      · unfold knelllaw14_AuditFires.f
        rw [speaks14]
        simp only [Option.bind_some, if_true]
        rw [decide_eq_false h60]
      · rw [e1]
        simp only [Option.bind_some]
        refine PE.bind r1 ?_
        simp only [if_true, e2]
        simp only [Option.bind_some]
        refine PE.bind r2 ?_
        simp only [if_true, e3]
        simp only [Option.bind_some]
        refine PE.bind r3 ?_
        rw [beq_self_eq_true]
        exact PE.now true
    exact main.rounds
end Go.Proofs.Ythniclbmpeklmaa.KAud
