/- What is proved: the document's test of an event (knellref24.Right) is the program's; plain, no conditions. -/
import Derived.Test.YthljanmfanppdaaKRfx4
import Derived.Test.YthljanmfanppdaaBq
namespace Go.Proofs.Ythljanmfanppdaa.Bk
open Go.RowKit Go.Proofs.YthljanmfanppdaaW.PrintWords Go.Proofs.YthljanmfanppdaaW.PrintLast Go.Proofs.YthljanmfanppdaaW.PrintMore Go.Proofs.Ythljanmfanppdaa.KRf
set_option linter.unusedVariables false
set_option linter.unusedSimpArgs false
theorem kind_is (n : Nat) (k wk op cn t dr er : Int) : knellref24_kind.f (n + 1) k wk op cn t dr er = some (lkOk k op) := by
  unfold knellref24_kind.f lkOk ownB
  simp only [knellref24_kind.j0]
  by_cases k1 : k = 1
  · subst k1; simp
  by_cases k2 : k = 2
  · subst k2
    by_cases h : op ≥ 1
    · have e : decide (op ≤ 6) = (decide (op ≤ 5) || op == 6) := by rw [Bool.eq_iff_iff]; simp; omega
      simp [h, e]
    · simp [h]; omega
  by_cases k3 : k = 3
  · subst k3
    by_cases h : op ≥ 1
    · simp [h]
    · simp [h]
  by_cases k4 : k = 4
  · subst k4
    by_cases h : op = 7
    · simp [h]
    · simp [h]
  by_cases k5 : k = 5
  · subst k5
    by_cases h : op ≥ 1
    · have e : decide (op ≤ 6) = (decide (op ≤ 5) || op == 6) := by rw [Bool.eq_iff_iff]; simp; omega
      simp [h, e]
    · simp [h]; omega
  simp [k1, k2, k3, k4, k5]
theorem has_j (n : Nat) (k wk op cn t dr er f : Int) : knellref24_Has.f (n + 1) k wk op cn t dr er f = knellref24_Has.j0 (n + 1) f (ownB op) k wk op cn t dr er := by
  unfold knellref24_Has.f ownB
  by_cases h : op ≥ 1
  · rw [if_pos h, decide_eq_true (show 1 ≤ op from h)]; rfl
  · rw [if_neg h, decide_eq_false (show ¬ 1 ≤ op from h)]; rfl
theorem has_w (n : Nat) (k wk op cn t dr er : Int) (hk : lkOk k op = true) : knellref24_Has.f (n + 1) k wk op cn t dr er 119 = some (lkW k) := by
  rw [has_j]
  simp only [knellref24_Has.j0]
  rw [if_pos trivial]
  unfold lkOk at hk
  unfold lkW
  by_cases k1 : k = 1
  · subst k1; rfl
  · by_cases k2 : k = 2 <;> by_cases k3 : k = 3 <;> by_cases k4 : k = 4 <;> by_cases k5 : k = 5 <;> simp_all
theorem has_c (n : Nat) (k wk op cn t dr er : Int) : knellref24_Has.f (n + 1) k wk op cn t dr er 99 = some (lkC k op) := by
  rw [has_j]
  simp only [knellref24_Has.j0]
  rw [if_neg (by decide), if_pos trivial]
  unfold lkC
  generalize ownB op = o
  by_cases k2 : k = 2
  · subst k2; cases o <;> simp
  · by_cases k3 : k = 3
    · subst k3; simp
    · simp [k2, k3]
theorem has_t (n : Nat) (k wk op cn t dr er : Int) : knellref24_Has.f (n + 1) k wk op cn t dr er 116 = some (lkT k er) := by
  rw [has_j]
  simp only [knellref24_Has.j0]
  rw [if_neg (by decide), if_neg (by decide), if_pos trivial]
  unfold lkT knellref24_still.f
  by_cases k1 : k = 1
  · subst k1; simp
  by_cases k4 : k = 4
  · subst k4; simp
  by_cases k3 : k = 3
  · subst k3
    by_cases e1 : er = 1
    · subst e1; simp
    by_cases e3 : er = 3
    · subst e3; simp
    simp [e1, e3]
  simp [k1, k3, k4]
theorem has_d (n : Nat) (k wk op cn t dr er : Int) : knellref24_Has.f (n + 1) k wk op cn t dr er 100 = some (lkD k op) := by
  rw [has_j]
  simp only [knellref24_Has.j0]
  rw [if_neg (by decide), if_neg (by decide), if_neg (by decide), if_pos trivial]
  unfold lkD
  by_cases k2 : k = 2
  · subst k2; simp
  · simp [k2]
theorem has_e (n : Nat) (k wk op cn t dr er : Int) : knellref24_Has.f (n + 1) k wk op cn t dr er 101 = some (lkE k op) := by
  rw [has_j]
  simp only [knellref24_Has.j0]
  rw [if_neg (by decide), if_neg (by decide), if_neg (by decide), if_neg (by decide)]
  unfold lkE
  by_cases k3 : k = 3
  · subst k3; simp
  by_cases k5 : k = 5
  · subst k5; simp
  simp [k3, k5]
theorem rright_l (n : Nat) (k wk op cn t dr er : Int) (hk : lkOk k op = true) : knellref24_Right.l0 (n + 8) [wk, cn, t, dr, er] 0 k wk op cn t dr er = some ((lkW k || wk == 0) && ((lkC k op || cn == 0) && ((lkT k er || t == 0) && ((lkD k op || dr == 0) && (lkE k op || er == 0))))) := by
  have w1 : wrap64 (0 + 1) = 1 := by unfold wrap64; omega
  have w2 : wrap64 (1 + 1) = 2 := by unfold wrap64; omega
  have w3 : wrap64 (2 + 1) = 3 := by unfold wrap64; omega
  have w4 : wrap64 (3 + 1) = 4 := by unfold wrap64; omega
  have w5 : wrap64 (4 + 1) = 5 := by unfold wrap64; omega
  have b0 : bt (⟨#[119, 99, 116, 100, 101]⟩ : ByteArray) 0 = 119 := by decide
  have b1 : bt (⟨#[119, 99, 116, 100, 101]⟩ : ByteArray) 1 = 99 := by decide
  have b2 : bt (⟨#[119, 99, 116, 100, 101]⟩ : ByteArray) 2 = 116 := by decide
  have b3 : bt (⟨#[119, 99, 116, 100, 101]⟩ : ByteArray) 3 = 100 := by decide
  have b4 : bt (⟨#[119, 99, 116, 100, 101]⟩ : ByteArray) 4 = 101 := by decide
  have r0 : rd [wk, cn, t, dr, er] 0 = wk := rfl
  have r1 : rd [wk, cn, t, dr, er] 1 = cn := rfl
  have r2 : rd [wk, cn, t, dr, er] 2 = t := rfl
  have r3 : rd [wk, cn, t, dr, er] 3 = dr := rfl
  have r4 : rd [wk, cn, t, dr, er] 4 = er := rfl
  have hl : (([wk, cn, t, dr, er] : List Int).length : Int) = 5 := rfl
  have s5 : knellref24_Right.l0 (n + 3) [wk, cn, t, dr, er] 5 k wk op cn t dr er = some true := by simp [knellref24_Right.l0]
  have s4 : knellref24_Right.l0 (n + 4) [wk, cn, t, dr, er] 4 k wk op cn t dr er = some (lkE k op || er == 0) := by
    rw [knellref24_Right.l0, hl, r4, b4, w5, has_e, s5]
    by_cases h : er = 0 <;> cases lkE k op <;> simp [h]
  have s3 : knellref24_Right.l0 (n + 5) [wk, cn, t, dr, er] 3 k wk op cn t dr er = some ((lkD k op || dr == 0) && (lkE k op || er == 0)) := by
    rw [knellref24_Right.l0, hl, r3, b3, w4, has_d, s4]
    by_cases h : dr = 0 <;> cases lkD k op <;> simp [h]
  have s2 : knellref24_Right.l0 (n + 6) [wk, cn, t, dr, er] 2 k wk op cn t dr er = some ((lkT k er || t == 0) && ((lkD k op || dr == 0) && (lkE k op || er == 0))) := by
    rw [knellref24_Right.l0, hl, r2, b2, w3, has_t, s3]
    by_cases h : t = 0 <;> cases lkT k er <;> simp [h]
  have s1 : knellref24_Right.l0 (n + 7) [wk, cn, t, dr, er] 1 k wk op cn t dr er = some ((lkC k op || cn == 0) && ((lkT k er || t == 0) && ((lkD k op || dr == 0) && (lkE k op || er == 0)))) := by
    rw [knellref24_Right.l0, hl, r1, b1, w2, has_c, s2]
    by_cases h : cn = 0 <;> cases lkC k op <;> simp [h]
  rw [knellref24_Right.l0, hl, r0, b0, w1, has_w _ _ _ _ _ _ _ _ hk, s1]
  by_cases h : wk = 0 <;> cases lkW k <;> simp [h]
theorem rright_is (n : Nat) (k wk op cn t dr er : Int) : knellref24_Right.f (n + 9) k wk op cn t dr er = some (lrB k wk op cn t dr er) := by
  unfold knellref24_Right.f lrB
  rw [kind_is]
  simp only [Option.bind_some, knellref24_Right.j0]
  cases hk : lkOk k op with
  | false => simp
  | true =>
    rw [rright_l n k wk op cn t dr er hk]
    generalize ((lkW k || wk == 0) && ((lkC k op || cn == 0) && ((lkT k er || t == 0) && ((lkD k op || dr == 0) && (lkE k op || er == 0))))) = z
    by_cases h1 : wk < 0
    · simp [h1]
    by_cases h2 : t < 0
    · simp [h1, h2]
    by_cases h3 : er < 0
    · simp [h1, h2, h3]
    by_cases h4 : k = 4
    · by_cases h5 : cn < 0 <;> simp [h1, h2, h3, h4, h5]
    · simp [h1, h2, h3, h4]
end Go.Proofs.Ythljanmfanppdaa.Bk
