/- What is proved: the law AuditMore; plain Lean over the printed functions. -/
import Derived.Test.YthniclbmpeklmaaKAumx1
import Derived.Test.YthniclbmpeklmaaAuN
namespace Go.Proofs.Ythniclbmpeklmaa.KAum
open Go.RowKit Go.Proofs.YthniclbmpeklmaaW.PrintWords Go.Proofs.Ythniclbmpeklmaa.Au
open Go.Proofs.YthniclbmpeklmaaW.PrintWords renaming Ev → PE
set_option linter.unusedVariables false
set_option linter.unusedSimpArgs false
theorem PE.self {α : Type} {g : Nat → Option α} {r : α} (h : ∀ k, g (k + 1) = some r) : PE g r := PE.step h (PE.now r)
theorem w64 {i n : Nat} (h : i < n) (hn : n ≤ 1000000) : wrap64 ((i : Int) + 1) = ((i + 1 : Nat) : Int) := by unfold wrap64; omega
def toE (x : S50) : Au.Ev := ⟨x.f0, x.f1, x.f2, x.f3.f0, x.f3.f1, x.f4.f0, x.f4.f1, x.f5, x.f6, x.f7, x.f8, x.f9⟩
def ofS (x : S50) : S54 := ⟨x.f0, x.f1, x.f2, ⟨x.f3.f0, x.f3.f1⟩, ⟨x.f4.f0, x.f4.f1⟩, x.f5, x.f6, x.f7, x.f8, x.f9⟩
theorem ofs_is (l : List S50) (hn : l.length ≤ 1000000) : PE (fun k => knelllaw11_Ofs.f k l) (l.map ofS) := by
  have go : ∀ d i, i + d = l.length → PE (fun k => knelllaw11_Ofs.l0 k ((l.take i).map ofS) l (l.length : Int) (i : Int)) (l.map ofS) := by
    intro d
    induction d with
    | zero =>
      intro i hd
      obtain rfl : i = l.length := by omega
      refine PE.self fun k => ?_
      rw [knelllaw11_Ofs.l0, if_neg (by omega), List.take_length]
    | succ d ih =>
      intro i hd
      refine PE.step (f := fun k => knelllaw11_Ofs.l0 k ((l.take (i + 1)).map ofS) l (l.length : Int) ((i + 1 : Nat) : Int)) (fun k => ?_) (ih (i + 1) (by omega))
      have hi : i < l.length := by omega
      have hrd : rd_T50 l (i : Int) = l[i] := by show l.getD i z50 = l[i]; simp [List.getD, hi]
      rw [knelllaw11_Ofs.l0, if_pos (by omega), if_pos (by omega), if_pos (by omega)]
      unfold knelllaw11_Of.f
      simp only [Option.bind_some]
      rw [if_pos (by simp; omega), w64 hi hn, hrd, List.take_succ_eq_append_getElem hi, List.map_append]
      rfl
  exact go l.length 0 (by omega)
theorem wf_ofS {l : List S50} (hw : ∀ x ∈ l, wfB (toE x) = true) : ((l.map ofS).all fun x => wfB (audit_Twice.ev x)) = true := by
  rw [List.all_eq_true]
  intro x hx
  obtain ⟨y, hy, rfl⟩ := List.mem_map.1 hx
  exact hw y hy
theorem speaks14 : knelllaw14_speaks.f = some true := by decide +kernel
/-- What the four tell of a list. -/
def tw (l : List S50) : Int := twiceI (gOf (l.map toE)) l.length
def ea (l : List S50) : Int := earlyI (gOf (l.map toE)) l.length
def wr (l : List S50) : Int := wrongI (gOf (l.map toE)) l.length
def sl (l : List S50) : Int := sleptI (gOf (l.map toE)) l.length
theorem four {l : List S50} (hn : l.length ≤ 1000000) (hw : ∀ x ∈ l, wfB (toE x) = true) : audit_Twice.f (l.map ofS) = some (tw l) ∧ audit_Early.f (l.map ofS) = some (ea l) ∧ audit_Wrong.f (l.map ofS) = some (wr l) ∧ audit_Slept.f (l.map ofS) = some (sl l) := by
  refine ⟨?_, ?_, ?_, ?_⟩
  · unfold audit_Twice.f tw
    rw [if_pos ⟨by rw [List.length_map]; exact hn, wf_ofS hw⟩, List.map_map, List.length_map]
    rfl
  · unfold audit_Early.f ea
    rw [if_pos ⟨by rw [List.length_map]; exact hn, wf_ofS hw⟩, List.map_map, List.length_map]
    rfl
  · unfold audit_Wrong.f wr
    rw [if_pos ⟨by rw [List.length_map]; exact hn, wf_ofS hw⟩, List.map_map, List.length_map]
    rfl
  · unfold audit_Slept.f sl
    rw [if_pos ⟨by rw [List.length_map]; exact hn, wf_ofS hw⟩, List.map_map, List.length_map]
    rfl
def Keeps (n : Nat) (a b : Int) : Prop := (a ≥ 0 → b = a) ∧ (a < 0 → b ≥ 0 → b ≥ (n : Int))
theorem more_any (P : (Nat → Au.Ev) → Nat → Bool) (hP : ∀ {g g' : Nat → Au.Ev} {i : Nat}, (∀ j, j ≤ i → g j = g' j) → P g i = P g' i) (l0 l1 : List S50) : Keeps l0.length (oI (firstN (P (gOf (l0.map toE))) l0.length)) (oI (firstN (P (gOf ((l0 ++ l1).map toE))) (l0 ++ l1).length)) :=
  oI_more (by simp) (fun i hi => hP fun j hj => by rw [List.map_append]; exact gOf_app (by rw [List.length_map]; omega))
/-- One round of the law's loop. -/
theorem round_is {x5 x6 : List S54} {A B : List Int} {j : Nat} (hA : A.length = 4) (hB : B.length = 4) (hj : j < 4) (hK : Keeps x5.length (rd A (j : Int)) (rd B (j : Int))) (r : Bool)
    (h4 : audit_Twice.f x6 = some (rd B 0) ∧ audit_Early.f x6 = some (rd B 1) ∧ audit_Wrong.f x6 = some (rd B 2) ∧ audit_Slept.f x6 = some (rd B 3)) (hBl : B = [rd B 0, rd B 1, rd B 2, rd B 3])
    (hr : PE (fun k => knelllaw14_AuditMore.l0 k x5 x6 A 4 ((j + 1 : Nat) : Int)) r) : PE (fun k => knelllaw14_AuditMore.l0 k x5 x6 A 4 (j : Int)) r := by
  refine PE.step (fun k => ?_) hr
  obtain ⟨e1, e2, e3, e4⟩ := h4
  rw [knelllaw14_AuditMore.l0, if_pos (by omega), if_pos (by omega), if_pos (by omega), e1, e2, e3, e4]
  simp only [Option.bind_some]
  rw [← hBl, if_pos (by omega), w64 (show j < 4 from hj) (by omega)]
  generalize rd A (j : Int) = a at hK
  generalize rd B (j : Int) = b at hK
  obtain ⟨h1, h2⟩ := hK
  by_cases ha : a ≥ 0
  · rw [if_pos ha, if_pos (h1 ha), if_neg (by omega)]
  · rw [if_neg ha, if_pos (by omega)]
    by_cases hb : b ≥ 0
    · rw [if_pos hb, if_neg (by have := h2 (by omega) hb; omega)]
    · rw [if_neg hb]
theorem AuditMore (l0 l1 : List S50) (hw0 : ∀ x ∈ l0, wfB (toE x) = true) (hw1 : ∀ x ∈ l1, wfB (toE x) = true) : ∃ k, knelllaw14_AuditMore.f k l0 l1 = some true := by
  have out : knelllaw14_AuditMore.j0 1 l0 l1 true = some true := by rw [knelllaw14_AuditMore.j0, if_pos rfl, speaks14]; rfl
  by_cases h0 : (l0.length : Int) > 30
  · refine ⟨1, ?_⟩
    unfold knelllaw14_AuditMore.f
    rw [speaks14, Option.bind_some, if_pos rfl, if_pos h0]
    exact out
  by_cases h1 : (l1.length : Int) > 30
  · refine ⟨1, ?_⟩
    unfold knelllaw14_AuditMore.f
    rw [speaks14, Option.bind_some, if_pos rfl, if_neg h0, decide_eq_true h1]
    exact out
  have hn0 : l0.length ≤ 1000000 := by omega
  have hn1 : l1.length ≤ 1000000 := by omega
  have hn : (l0 ++ l1).length ≤ 1000000 := by rw [List.length_append]; omega
  have hw : ∀ x ∈ l0 ++ l1, wfB (toE x) = true := fun x hx => (List.mem_append.1 hx).elim (hw0 x) (hw1 x)
  obtain ⟨a1, a2, a3, a4⟩ := four hn0 hw0
  have f4 := four hn hw
  have K1 : Keeps (l0.map ofS).length (tw l0) (tw (l0 ++ l1)) := by rw [List.length_map]; exact more_any twiceP (fun h => twiceP_pre h) l0 l1
  have K2 : Keeps (l0.map ofS).length (ea l0) (ea (l0 ++ l1)) := by rw [List.length_map]; exact more_any earlyP (fun h => earlyP_pre h) l0 l1
  have K3 : Keeps (l0.map ofS).length (wr l0) (wr (l0 ++ l1)) := by rw [List.length_map]; exact more_any wrongP (fun h => wrongP_pre h) l0 l1
  have K4 : Keeps (l0.map ofS).length (sl l0) (sl (l0 ++ l1)) := by rw [List.length_map]; exact more_any sleptP (fun h => sleptP_pre h) l0 l1
  have key : PE (fun k => knelllaw14_AuditMore.l0 k (l0.map ofS) ((l0 ++ l1).map ofS) [tw l0, ea l0, wr l0, sl l0] 4 ((0 : Nat) : Int)) true := by
    have fin : PE (fun k => knelllaw14_AuditMore.l0 k (l0.map ofS) ((l0 ++ l1).map ofS) [tw l0, ea l0, wr l0, sl l0] 4 ((4 : Nat) : Int)) true := PE.self fun k => by rw [knelllaw14_AuditMore.l0, if_neg (by omega)]
    have st := fun (j : Nat) (hj : j < 4) (hK : Keeps (l0.map ofS).length (rd [tw l0, ea l0, wr l0, sl l0] (j : Int)) (rd [tw (l0 ++ l1), ea (l0 ++ l1), wr (l0 ++ l1), sl (l0 ++ l1)] (j : Int))) => round_is (x6 := (l0 ++ l1).map ofS) rfl rfl hj hK true f4 rfl
    exact st 0 (by omega) K1 (st 1 (by omega) K2 (st 2 (by omega) K3 (st 3 (by omega) K4 fin)))
  have main : PE (fun k => knelllaw14_AuditMore.f k l0 l1) true := by
    refine PE.congr (f := fun k => knelllaw14_AuditMore.j0 k l0 l1 false) (fun k => ?_) (PE.step (fun k => by rw [knelllaw14_AuditMore.j0, if_neg (by decide)]) (PE.bind (ofs_is l0 hn0) ?_))
    · unfold knelllaw14_AuditMore.f
      rw [speaks14, Option.bind_some, if_pos rfl, if_neg h0, decide_eq_false h1]
    · simp only [Option.bind_some, List.nil_append, List.length_nil, List.length_map]
      simp only [if_pos (show 0 + l0.length < 1466015503701 by omega)]
      refine PE.bind (ofs_is l1 hn1) ?_
      simp only [List.length_map, if_pos (show l0.length + l1.length < 1466015503701 by omega), a1, a2, a3, a4, Option.bind_some]
      rw [← List.map_append]
      exact key
  exact main.rounds
end Go.Proofs.Ythniclbmpeklmaa.KAum
