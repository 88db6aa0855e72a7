/- What is proved: the sum of times that stops where clocks do does not hang on their order, never falls, and stays within its bounds. No conditions (lists longer than 40 are let by, as the statement says). -/
import Derived.Test.YthljanmfanppdaaPRoundSumsx1
namespace Go.Proofs.Ythljanmfanppdaa.Pure
open Go.RowKit Go.Proofs.Ythljanmfanppdaa.PRoundSums Go.Proofs.YthljanmfanppdaaW.PrintWords Go.Proofs.YthljanmfanppdaaW.PrintLast Go.Proofs.YthljanmfanppdaaW.PrintMore

/-- A number as a time. -/
def cl (t : Int) : Int := if t < 0 then 0 else if 1073741823 < t then 1073741823 else t
theorem cl_bd (t : Int) : 0 ≤ cl t ∧ cl t ≤ 1073741823 := by unfold cl; repeat' split
                                                             all_goals omega
theorem clock_is (t : Int) : round_clock.f t = some (cl t) := by
  unfold round_clock.f mn mx cl
  congr 1
  repeat' split
  all_goals omega

theorem w64 {x : Int} (h0 : -9223372036854775808 ≤ x) (h1 : x < 9223372036854775808) : wrap64 x = x := by
  unfold wrap64; omega

theorem speaks_is : knelllaw04_speaks.f = some true := by decide +kernel

/-- One time more. -/
def add (s t : Int) : Int := cl (s + cl t)
/-- The sum, from left to right. -/
def sum (l : List Int) (s : Int) : Int := l.foldl add s
theorem sum_bd (l : List Int) : ∀ s, 0 ≤ s → s ≤ 1073741823 → 0 ≤ sum l s ∧ sum l s ≤ 1073741823 := by
  induction l with
  | nil => intro s h0 h1; exact ⟨h0, h1⟩
  | cons x r ih => intro s _ _; exact ih _ (cl_bd _).1 (cl_bd _).2
theorem add_ge {s t : Int} (h0 : 0 ≤ s) (h1 : s ≤ 1073741823) : s ≤ add s t := by
  have := cl_bd t
  unfold add
  rw [cl]
  repeat' split
  all_goals omega
theorem add_swap (s a b : Int) (h0 : 0 ≤ s) : add (add s a) b = add (add s b) a := by
  have ha := cl_bd a
  have hb := cl_bd b
  unfold add
  generalize cl a = x at *
  generalize cl b = y at *
  unfold cl
  repeat' split
  all_goals omega
theorem add_nn (s t : Int) : 0 ≤ add s t := (cl_bd _).1
theorem sum_add (l : List Int) : ∀ s a, 0 ≤ s → sum l (add s a) = add (sum l s) a := by
  induction l with
  | nil => intro s a _; rfl
  | cons x r ih =>
    intro s a h0
    show sum r (add (add s a) x) = add (sum r (add s x)) a
    rw [add_swap s a x h0, ih _ _ (add_nn _ _)]
theorem sum_append (l r : List Int) (s : Int) : sum (l ++ r) s = sum r (sum l s) := by
  unfold sum; exact List.foldl_append
/-- Turned round it is the same. -/
theorem sum_rev (l : List Int) : ∀ s, 0 ≤ s → sum l.reverse s = sum l s := by
  induction l with
  | nil => intro s _; rfl
  | cons x r ih =>
    intro s h0
    rw [List.reverse_cons, sum_append, ih s h0]
    show add (sum r s) x = sum r (add s x)
    exact (sum_add r s x h0).symm

theorem drop_step (l : List Int) (i : Nat) (h : i < l.length) : l.drop i = l[i] :: l.drop (i + 1) := List.drop_eq_getElem_cons h
theorem rd_nat (l : List Int) (i : Nat) (h : i < l.length) : rd l (i : Int) = l[i] := by
  unfold rd
  simp [List.getD_eq_getElem?_getD, h]

theorem plus_loop (l : List Int) (hl : l.length ≤ 17592186044416) : ∀ (d k i : Nat) (s : Int), i + d = l.length → d < k → 0 ≤ s → s ≤ 1073741823 →
    round_Plus.l0 k s l (l.length : Int) (i : Int) = some (sum (l.drop i) s) := by
  intro d
  induction d with
  | zero =>
    intro k i s hi hk _ _
    obtain ⟨k, rfl⟩ : ∃ m, k = m + 1 := ⟨k - 1, by omega⟩
    simp only [round_Plus.l0]
    rw [if_neg (by omega), List.drop_eq_nil_of_le (by omega)]; rfl
  | succ d ih =>
    intro k i s hi hk h0 h1
    obtain ⟨k, rfl⟩ : ∃ m, k = m + 1 := ⟨k - 1, by omega⟩
    have hb := cl_bd (rd l (i : Int))
    simp only [round_Plus.l0]
    rw [if_pos (by omega), if_pos (by omega), if_pos (by omega)]
    simp only [clock_is, Option.bind_some]
    rw [w64 (x := s + cl (rd l (i : Int))) (by omega) (by omega), w64 (x := (i : Int) + 1) (by omega) (by omega)]
    have e : ((i : Int) + 1) = ((i + 1 : Nat) : Int) := by omega
    rw [e, ih k (i + 1) (cl (s + cl (rd l (i : Int)))) (by omega) (by omega) (cl_bd _).1 (cl_bd _).2, drop_step l i (by omega), rd_nat l i (by omega)]
    rfl

theorem plus_is (l : List Int) (hl : l.length ≤ 17592186044416) (k : Nat) (hk : l.length < k) : round_Plus.f k l = some (sum l 0) := by
  unfold round_Plus.f
  exact plus_loop l hl l.length k 0 0 (by omega) hk (by omega) (by omega)

theorem turn_loop (l : List Int) (a : Int) (hl : l.length ≤ 40) : ∀ (d k i : Nat), i + d = l.length → d + 50 < k →
    knelllaw04_RoundSums.l0 k l a (l.take i).reverse l (l.length : Int) (i : Int) = some true := by
  intro d
  induction d with
  | zero =>
    intro k i hi hk
    obtain ⟨k, rfl⟩ : ∃ m, k = m + 1 := ⟨k - 1, by omega⟩
    have hs := sum_bd l 0 (by omega) (by omega)
    simp only [knelllaw04_RoundSums.l0]
    rw [if_neg (by omega), List.take_of_length_le (by omega)]
    rw [plus_is l (by omega) k (by omega), Option.bind_some, plus_is [sum l 0, a] (by simp) k (by simp; omega), Option.bind_some, plus_is l.reverse (by simp; omega) k (by simp; omega), Option.bind_some]
    have e : sum [sum l 0, a] 0 = add (sum l 0) a := by
      show add (add 0 (sum l 0)) a = _
      congr 1
      unfold add cl
      repeat' split
      all_goals omega
    have hn := sum_bd [sum l 0, a] 0 (by omega) (by omega)
    have hg := add_ge (t := a) hs.1 hs.2
    rw [e] at hn ⊢
    rw [if_pos (sum_rev l 0 (by omega)), if_pos (by omega), if_pos (by omega), if_pos (by omega), if_pos (by omega), if_pos (by simp; omega)]
    rw [plus_is (l.reverse ++ [a]) (by simp; omega) k (by simp; omega), Option.bind_some, sum_append, sum_rev l 0 (by omega)]
    have e2 : sum [a] (sum l 0) = add (sum l 0) a := rfl
    rw [e2, beq_self_eq_true]
  | succ d ih =>
    intro k i hi hk
    obtain ⟨k, rfl⟩ : ∃ m, k = m + 1 := ⟨k - 1, by omega⟩
    simp only [knelllaw04_RoundSums.l0]
    rw [if_pos (by omega), if_pos (by omega), if_pos (by omega)]
    simp only [Option.bind_some]
    rw [if_pos (by simp; omega), w64 (x := (i : Int) + 1) (by omega) (by omega)]
    have e : ((i : Int) + 1) = ((i + 1 : Nat) : Int) := by omega
    have e2 : [rd l (i : Int)] ++ (l.take i).reverse = (l.take (i + 1)).reverse := by
      rw [List.take_succ_eq_append_getElem (by omega), List.reverse_append, rd_nat l i (by omega)]; rfl
    rw [e, e2]
    exact ih k (i + 1) (by omega) (by omega)

theorem RoundSums : knelllaw04_RoundSums.Pure := by
  intro l a hl hl8 _ _
  refine ⟨200, ?_⟩
  unfold knelllaw04_RoundSums.f
  rw [speaks_is]
  simp only [Option.bind_some, if_true]
  by_cases h : l.length ≤ 40
  · have e : decide ((l.length : Int) > 40) = false := decide_eq_false (by omega)
    rw [e]
    simp only [knelllaw04_RoundSums.j0]
    rw [if_neg (by simp)]
    exact turn_loop l a h l.length 199 0 (by omega) (by omega)
  · have e : decide ((l.length : Int) > 40) = true := decide_eq_true (by omega)
    rw [e]
    simp only [knelllaw04_RoundSums.j0]
    rw [speaks_is]; rfl

end Go.Proofs.Ythljanmfanppdaa.Pure
