/- What is proved: the law JudgeFront as a plain function comes to true; plain Lean over the printed functions. -/
import Derived.Test.YthniclbmpeklmaaKJux1
namespace Go.Proofs.Ythniclbmpeklmaa.KJu
open Go.RowKit Go.Proofs.YthniclbmpeklmaaW.PrintWords Go.Proofs.Ythniclbmpeklmaa.Ju
open Go.Proofs.YthniclbmpeklmaaW.PrintWords renaming Ev → PE
set_option linter.unusedVariables false
set_option linter.unusedSimpArgs false
theorem Ev.self {α : Type} {g : Nat → Option α} {r : α} (h : ∀ k, g (k + 1) = some r) : PE g r := PE.step h (PE.now r)
theorem w64 {i n : Nat} (h : i < n) (hn : n ≤ 1000000) : wrap64 ((i : Int) + 1) = ((i + 1 : Nat) : Int) := by unfold wrap64; omega
def toE (x : S50) : Au.Ev := ⟨x.f0, x.f1, x.f2, x.f3.f0, x.f3.f1, x.f4.f0, x.f4.f1, x.f5, x.f6, x.f7, x.f8, x.f9⟩
def ofS (x : S50) : S54 := ⟨x.f0, x.f1, x.f2, ⟨x.f3.f0, x.f3.f1⟩, ⟨x.f4.f0, x.f4.f1⟩, x.f5, x.f6, x.f7, x.f8, x.f9⟩
theorem ofs_is (l : List S50) (hn : l.length ≤ 1000000) : PE (fun k => knelllaw11_Ofs.f k l) (l.map ofS) := by
  have go : ∀ d i, i + d = l.length → PE (fun k => knelllaw11_Ofs.l0 k ((l.take i).map ofS) l (l.length : Int) (i : Int)) (l.map ofS) := by
    intro d
    induction d with
    | zero =>
      intro i hd
      obtain rfl : i = l.length := by omega
      refine Ev.self fun k => ?_
      rw [knelllaw11_Ofs.l0, if_neg (by omega), List.take_length]
    | succ d ih =>
      intro i hd
      refine PE.step (f := fun k => knelllaw11_Ofs.l0 k ((l.take (i + 1)).map ofS) l (l.length : Int) ((i + 1 : Nat) : Int)) (fun k => ?_) (ih (i + 1) (by omega))
      have hi : i < l.length := by omega
      have hrd : rd_T50 l (i : Int) = l[i] := by show l.getD i z50 = l[i]; simp [List.getD, hi]
      rw [knelllaw11_Ofs.l0, if_pos (by omega), if_pos (by omega), if_pos (by omega)]
      unfold knelllaw11_Of.f
      simp only [Option.bind_some]
      rw [if_pos (by simp; omega), w64 hi hn, hrd, List.take_succ_eq_append_getElem hi, List.map_append]
      rfl
  exact go l.length 0 (by omega)

theorem ofS_ev (x : S50) : judge_Judge.ev (ofS x) = toE x := rfl
theorem wf_ofS {l : List S50} (hw : ∀ x ∈ l, wfB' (toE x) = true) : ((l.map ofS).all fun x => wfB' (judge_Judge.ev x)) = true := by
  rw [List.all_eq_true]
  intro y hy
  obtain ⟨x, hx, rfl⟩ := List.mem_map.1 hy
  exact hw x hx
theorem jj {l : List S50} (hn : l.length ≤ 1000) (hw : ∀ x ∈ l, wfB' (toE x) = true) (a0 : Int) : judge_Judge.f (l.map ofS) a0 = some (judgeF (l.map toE) a0) := by
  unfold judge_Judge.f
  rw [if_pos ⟨by rw [List.length_map]; omega, wf_ofS hw⟩, List.map_map]
  rfl
theorem tm {a n : Nat} (ha : a ≤ 255) (hn : n ≤ 1000) : Int.tmod (wrap64 (a : Int)) (wrap64 ((n : Int) + 1)) = ((a % (n + 1) : Nat) : Int) := by
  have h1 : wrap64 (a : Int) = (a : Int) := by unfold wrap64; omega
  have h2 : wrap64 ((n : Int) + 1) = ((n + 1 : Nat) : Int) := by unfold wrap64; omega
  rw [h1, h2]
  rfl
theorem judge_at {l : List Au.Ev} {a0 : Int} (h0 : ¬ (a0 < 1 ∨ 64 < a0)) : judgeF l a0 = outF (goF (be0 a0) l) := by unfold judgeF; rw [if_neg h0]
theorem front (a0 : Int) (h0 : ¬ (a0 < 1 ∨ 64 < a0)) (l : List S50) (hn : l.length ≤ 60) (a : Nat) (ha : a ≤ 255) (hw : ∀ x ∈ l, wfB' (toE x) = true) : PE (fun k => knelllaw13_JudgeFront.j0 k a0 l (a : Int) false) true := by
  have tk : ∀ m, PE (fun k => knelllaw11_Ofs.f k (l.take m)) ((l.take m).map ofS) := fun m => ofs_is _ (by rw [List.length_take]; omega)
  have jt : ∀ m, judge_Judge.f ((l.take m).map ofS) a0 = some (outF (goF (be0 a0) ((l.map toE).take m))) := fun m => by
    rw [jj (by rw [List.length_take]; omega) (fun x hx => hw x (List.mem_of_mem_take hx)), judge_at h0, List.map_take]
  have jl := jj (by omega) hw a0
  rw [judge_at h0] at jl
  refine PE.step (fun k => by rw [knelllaw13_JudgeFront.j0, if_neg (by decide)]) ?_
  refine PE.bind (ofs_is l (by omega)) ?_
  have w1 : ¬ wrap64 ((l.length : Int) + 1) = 0 := by unfold wrap64; omega
  cases hg : goF (be0 a0) (l.map toE) with
  | none =>
    rw [hg] at jl
    have hm : a % (l.length + 1) ≤ l.length := by have := Nat.mod_lt a (show 0 < l.length + 1 by omega); omega
    refine PE.congr (f := fun k => (knelllaw11_Ofs.f k (l.take (a % (l.length + 1)))).bind fun t131 => ((judge_Judge.f t131 a0).bind fun bt134 => (if bt134.1 = (-1) then (some (bt134.2 == 0)) else (some false)))) (fun k => ?_) (PE.bind (tk _) (PE.congr (fun k => ?_) (PE.now true)))
    · rw [jl, Option.bind_some, if_pos (by rfl), if_neg w1, tm ha (by omega), if_pos (by omega), if_pos (by omega), Int.toNat_natCast]
    · rw [jt, goF_none hg]
      rfl
  | some p =>
    obtain ⟨i, c⟩ := p
    rw [hg] at jl
    obtain ⟨hi, hc, hlow, hat⟩ := goF_some hg
    rw [List.length_map] at hi
    refine PE.congr (f := fun k => knelllaw13_JudgeFront.j1 k a0 l (a : Int) (i : Int) c false) (fun k => ?_) ?_
    · rw [jl, Option.bind_some, if_neg (show ¬ (outF (some (i, c))).2 = 0 from hc), if_neg (show ¬ (outF (some (i, c))).1 < 0 by show ¬ (i : Int) < 0; omega)]
      show knelllaw13_JudgeFront.j1 k a0 l (a : Int) (i : Int) c (decide ((i : Int) ≥ (l.length : Int))) = _
      rw [decide_eq_false (by omega)]
    have w2 : wrap64 ((i : Int) + 1) = ((i + 1 : Nat) : Int) := w64 hi (by omega)
    refine PE.step (f := fun k => (knelllaw11_Ofs.f k (l.take (i + 1))).bind fun t140 => ((judge_Judge.f t140 a0).bind fun bt143 => (if bt143.1 = (i : Int) then (knelllaw13_JudgeFront.j2 k a0 l (a : Int) (i : Int) (bt143.2 != c)) else (knelllaw13_JudgeFront.j2 k a0 l (a : Int) (i : Int) true)))) (fun k => by rw [knelllaw13_JudgeFront.j1, if_neg (by decide), w2, if_pos (by omega), if_pos (by omega), Int.toNat_natCast]) ?_
    refine PE.bind (tk _) (PE.congr (f := fun k => knelllaw13_JudgeFront.j2 k a0 l (a : Int) (i : Int) false) (fun k => ?_) ?_)
    · rw [jt, hat, Option.bind_some]
      show (if (i : Int) = (i : Int) then knelllaw13_JudgeFront.j2 k a0 l (a : Int) (i : Int) (c != c) else _) = _
      rw [if_pos rfl, bne_self_eq_false]
    have hm : a % (i + 1) ≤ i := by have := Nat.mod_lt a (show 0 < i + 1 by omega); omega
    refine PE.step (f := fun k => (knelllaw11_Ofs.f k (l.take (a % (i + 1)))).bind fun t149 => ((judge_Judge.f t149 a0).bind fun bt152 => (if bt152.1 = (-1) then (some (bt152.2 == 0)) else (some false)))) (fun k => ?_) (PE.bind (tk _) (PE.congr (fun k => ?_) (PE.now true)))
    · rw [knelllaw13_JudgeFront.j2, if_neg (by decide), if_neg (by rw [w2]; omega), tm ha (by omega), if_pos (by omega), if_pos (by omega), Int.toNat_natCast]
    · rw [jt, hlow _ hm]
      rfl
theorem JudgeFront (a0 : Int) (l1 : List S50) (a2 : Int) (hw : ∀ x ∈ l1, wfB' (toE x) = true) (h2 : (Lit.int .u8 a2).wf = true) : ∃ k, knelllaw13_JudgeFront.f k a0 l1 a2 = some true := by
  have ha : 0 ≤ a2 ∧ a2 ≤ 255 := by
    have e1 : IntKind.u8.min = 0 := rfl
    have e2 : IntKind.u8.max = 255 := rfl
    simpa [Lit.wf, e1, e2] using h2
  obtain ⟨a, rfl⟩ : ∃ a : Nat, a2 = (a : Int) := ⟨a2.toNat, by omega⟩
  have yes : ∃ k, knelllaw13_JudgeFront.j0 k a0 l1 (a : Int) true = some true := ⟨1, by rw [knelllaw13_JudgeFront.j0, if_pos rfl]; rfl⟩
  unfold knelllaw13_JudgeFront.f
  simp only [show knelllaw13_speaks.f = some true from rfl, Option.bind_some, if_true]
  by_cases hn : (l1.length : Int) > 60
  · simp only [if_pos hn]; exact yes
  · simp only [if_neg hn]
    by_cases h1 : a0 < 1
    · simp only [if_pos h1]; exact yes
    · simp only [if_neg h1]
      by_cases h6 : a0 > 64
      · rw [decide_eq_true h6]; exact yes
      · rw [decide_eq_false h6]
        exact PE.rounds (front a0 (by omega) l1 (by omega) a (by omega) hw)
end Go.Proofs.Ythniclbmpeklmaa.KJu
