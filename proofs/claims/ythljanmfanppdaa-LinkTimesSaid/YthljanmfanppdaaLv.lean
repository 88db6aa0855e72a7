/- What is proved: the law's own doubling of a wait comes to the wait; plain. -/
import Derived.Test.YthljanmfanppdaaLt
namespace Go.Proofs.Ythljanmfanppdaa.Bk
open Go.RowKit Go.Proofs.YthljanmfanppdaaW.PrintWords Go.Proofs.YthljanmfanppdaaW.PrintLast Go.Proofs.YthljanmfanppdaaW.PrintMore
open Go.Proofs.Ythljanmfanppdaa.PureLk (cl wt dbl dbl_succ dbl_up dbl_bd cl_id)
set_option linter.unusedVariables false
/-- k doublings done. -/
structure WJ (c : Cf) (att : Int) (k : Nat) (W : Int) : Prop where
  le : (k : Int) ≤ att
  eq : mn W 1073741823 = dbl k c.c9
  bd : 1 ≤ W ∧ W ≤ 2147483646
theorem WJ.start {c : Cf} {att : Int} (hf : cfCode c = 0) (h : 0 ≤ att) : WJ c att 0 c.c9 := by
  have hb := (cf_bd hf).2.1
  exact ⟨h, by show mn c.c9 1073741823 = c.c9; unfold mn; rw [if_neg (by omega)], by omega⟩
theorem WJ.step {c : Cf} {att W : Int} {k : Nat} (hf : cfCode c = 0) (h : WJ c att k W) (hk : (k : Int) < att) (hw : W < c.c10) : WJ c att (k + 1) (wrap64 (W + W)) := by
  have hb := (cf_bd hf).2.2.1
  have hbd := h.bd
  have e := h.eq
  have hW : wrap64 (W + W) = W + W := by unfold wrap64; omega
  rw [show mn W 1073741823 = W by unfold mn; rw [if_neg (by omega)]] at e
  rw [hW]
  exact ⟨by omega, by rw [dbl_succ, ← e]; congr 1; omega, by omega⟩
theorem dbl_mono (b : Int) (h0 : 0 ≤ b) (h1 : b ≤ 1073741823) (n : Nat) : ∀ j, dbl n b ≤ dbl (n + j) b
  | 0 => Int.le_refl _
  | j + 1 => Int.le_trans (dbl_mono b h0 h1 n j) (dbl_up (n + j) b h0 h1).1
theorem WJ.end_ {c : Cf} {att W : Int} {k : Nat} (hf : cfCode c = 0) (h : WJ c att k W) (ha : 0 ≤ att ∧ att ≤ 31) (hx : ¬ (k : Int) < att ∨ ¬ W < c.c10) : mn W c.c10 = wt c.c9 c.c10 att := by
  have hb := cf_bd hf
  have h9 := hb.2.1
  have h10 := hb.2.2.1
  have hle := h.le
  have e := h.eq
  unfold wt
  rw [cl_id (by omega) h9.2, cl_id (by omega) h10.2]
  have ea : mn (mx att 0) 31 = att := by unfold mn mx; repeat' split <;> omega
  rw [ea]
  by_cases hk : (k : Int) < att
  · have hw : ¬ W < c.c10 := by rcases hx with q | q; exact absurd hk q; exact q
    have hm := dbl_mono c.c9 (by omega) h9.2 k (att.toNat - k)
    rw [show k + (att.toNat - k) = att.toNat by omega, ← e] at hm
    generalize dbl att.toNat c.c9 = z at *
    unfold mn at *
    repeat' split
    all_goals (split at hm <;> omega)
  · rw [show att.toNat = k by omega, ← e]
    unfold mn
    repeat' split
    all_goals omega
end Go.Proofs.Ythljanmfanppdaa.Bk
