/- What is proved: a deadline is due at the least multiple of the slack and one that is not below it, so it is within its bounds, stays, and keeps the order. No conditions. -/
import Derived.Test.YthljanmfanppdaaPRoundWithinx1
namespace Go.Proofs.Ythljanmfanppdaa.Pure
open Go.RowKit Go.Proofs.Ythljanmfanppdaa.PRoundWithin Go.Proofs.YthljanmfanppdaaW.PrintWords Go.Proofs.YthljanmfanppdaaW.PrintLast Go.Proofs.YthljanmfanppdaaW.PrintMore

/-- A number as a time. -/
def cl (t : Int) : Int := if t < 0 then 0 else if 1073741823 < t then 1073741823 else t
theorem cl_bd (t : Int) : 0 ≤ cl t ∧ cl t ≤ 1073741823 := by unfold cl; repeat' split
                                                             all_goals omega
theorem cl_id {t : Int} (h0 : 0 ≤ t) (h1 : t ≤ 1073741823) : cl t = t := by unfold cl; rw [if_neg (by omega), if_neg (by omega)]
/-- When a deadline is due. -/
def upv (d s : Int) : Int := (cl d + (cl s + 1) - 1) / (cl s + 1) * (cl s + 1)

theorem clock_is (t : Int) : round_clock.f t = some (cl t) := by
  unfold round_clock.f mn mx cl
  congr 1
  repeat' split
  all_goals omega

theorem w64 {x : Int} (h0 : -9223372036854775808 ≤ x) (h1 : x < 9223372036854775808) : wrap64 x = x := by
  unfold wrap64; omega

/-- Up's three bounds: not ahead, within the slack, a multiple. -/
theorem upv_bd (d s : Int) : cl d ≤ upv d s ∧ upv d s ≤ cl d + cl s ∧ upv d s % (cl s + 1) = 0 := by
  obtain ⟨hd, hd'⟩ := cl_bd d
  obtain ⟨hs, hs'⟩ := cl_bd s
  unfold upv
  generalize cl d = D at *
  generalize cl s = S at *
  have e := Int.mul_ediv_add_emod (D + (S + 1) - 1) (S + 1)
  have r0 := Int.emod_nonneg (D + (S + 1) - 1) (show S + 1 ≠ 0 by omega)
  have r1 := Int.emod_lt_of_pos (D + (S + 1) - 1) (show 0 < S + 1 by omega)
  rw [Int.mul_comm] at e
  refine ⟨by omega, by omega, ?_⟩
  exact Int.mul_emod_left _ _

theorem up_is (d s : Int) : round_Up.f d s = some (upv d s) := by
  have hb := upv_bd d s
  unfold round_Up.f
  rw [clock_is, clock_is]
  simp only [Option.bind_some]
  obtain ⟨hd, hd'⟩ := cl_bd d
  obtain ⟨hs, hs'⟩ := cl_bd s
  rw [w64 (x := cl s + 1) (by omega) (by omega), if_neg (by omega), w64 (x := cl d + (cl s + 1)) (by omega) (by omega), w64 (x := cl d + (cl s + 1) - 1) (by omega) (by omega)]
  rw [Int.tdiv_eq_ediv_of_nonneg (by omega)]
  have q0 : 0 ≤ (cl d + (cl s + 1) - 1) / (cl s + 1) := Int.ediv_nonneg (by omega) (by omega)
  have q1 : (cl d + (cl s + 1) - 1) / (cl s + 1) ≤ cl d + (cl s + 1) - 1 := Int.ediv_le_self _ (by omega)
  rw [w64 (x := (cl d + (cl s + 1) - 1) / (cl s + 1)) (by omega) (by omega)]
  unfold upv at hb ⊢
  rw [w64 (by omega) (by omega)]

theorem upv_mono {a b s : Int} (h : cl a ≤ cl b) : upv a s ≤ upv b s := by
  obtain ⟨hs, hs'⟩ := cl_bd s
  unfold upv
  exact Int.mul_le_mul_of_nonneg_right (Int.ediv_le_ediv (by omega) (by omega)) (by omega)

/-- What is a multiple already is due then. -/
theorem upv_fix {u s : Int} (h0 : 0 ≤ u) (h1 : u ≤ 1073741823) (hm : u % (cl s + 1) = 0) : upv u s = u := by
  obtain ⟨hs, hs'⟩ := cl_bd s
  unfold upv
  rw [cl_id h0 h1]
  obtain ⟨q, hq⟩ := Int.dvd_of_emod_eq_zero hm
  generalize cl s = S at *
  have : (u + (S + 1) - 1) / (S + 1) = q := by
    rw [hq, show (S + 1) * q + (S + 1) - 1 = S + (S + 1) * q by omega, Int.add_mul_ediv_left _ _ (by omega), Int.ediv_eq_zero_of_lt (by omega) (by omega)]
    omega
  rw [this, hq, Int.mul_comm]

theorem speaks_is : knelllaw04_speaks.f = some true := by
  unfold knelllaw04_speaks.f
  simp only [up_is, Option.bind_some]
  decide

theorem j1_is (k : Nat) (x y s : Int) (h0 : 0 ≤ x) (h1 : x ≤ 1073741823) : knelllaw04_RoundWithin.j1 (k + 1) x y s false = some true := by
  simp only [knelllaw04_RoundWithin.j1]
  rw [if_neg (by simp), up_is, Option.bind_some, if_pos (upv_fix h0 h1 (by simp [cl]))]
  unfold round_Batch.f
  simp only [up_is, Option.bind_some, Option.some.injEq]
  rw [beq_iff_eq]
  exact BEq.comm

theorem j0_is (k : Nat) (x y s : Int) (hx : 0 ≤ x ∧ x ≤ 1073741823) (hy : 0 ≤ y ∧ y ≤ 1073741823) :
    knelllaw04_RoundWithin.j0 (k + 1 + 1) x y s (upv x s) (upv y s) false = some true := by
  have hb := upv_bd x s
  have hc := upv_bd y s
  have hd := cl_bd x
  have m1 : x ≤ y → upv x s ≤ upv y s := fun h => upv_mono (by rw [cl_id hx.1 hx.2, cl_id hy.1 hy.2]; exact h)
  have m2 : y ≤ x → upv y s ≤ upv x s := fun h => upv_mono (by rw [cl_id hx.1 hx.2, cl_id hy.1 hy.2]; exact h)
  have hj := j1_is k x y s hx.1 hx.2
  have tail : (if x ≤ y then (if upv x s > upv y s then (knelllaw04_RoundWithin.j1 (k + 1) x y s true) else (if y ≤ x then (knelllaw04_RoundWithin.j1 (k + 1) x y s (decide (upv y s > upv x s))) else (knelllaw04_RoundWithin.j1 (k + 1) x y s false))) else (if y ≤ x then (knelllaw04_RoundWithin.j1 (k + 1) x y s (decide (upv y s > upv x s))) else (knelllaw04_RoundWithin.j1 (k + 1) x y s false))) = some true := by
    by_cases h : x ≤ y
    · have := m1 h
      rw [if_pos h, if_neg (by omega)]
      by_cases h' : y ≤ x
      · have := m2 h'
        rw [if_pos h', decide_eq_false (by omega)]
        exact hj
      · rw [if_neg h']
        exact hj
    · have := m2 (by omega)
      rw [if_neg h, if_pos (by omega), decide_eq_false (by omega)]
      exact hj
  rw [knelllaw04_RoundWithin.j0]
  rw [if_neg (by simp)]
  by_cases h : upv x s ≤ 1073741823
  · rw [if_pos h, up_is, Option.bind_some, if_pos (upv_fix (by omega) h hb.2.2)]
    exact tail
  · rw [if_neg h]
    exact tail

theorem RoundWithin : knelllaw04_RoundWithin.Pure := by
  intro a b s ha hb hs
  have hA : 0 ≤ a ∧ a ≤ 4294967295 := by have := ha; simp [Lit.wf] at this; exact this
  have hB : 0 ≤ b ∧ b ≤ 4294967295 := by have := hb; simp [Lit.wf] at this; exact this
  have hS : 0 ≤ s ∧ s ≤ 65535 := by have := hs; simp [Lit.wf] at this; exact this
  refine ⟨2, ?_⟩
  unfold knelllaw04_RoundWithin.f
  rw [speaks_is]
  simp only [Option.bind_some, if_true]
  rw [w64 (x := a / 4) (by omega) (by omega), w64 (x := b / 4) (by omega) (by omega), w64 (x := s) (by omega) (by omega)]
  rw [w64 (x := a / 4 + s) (by omega) (by omega), w64 (x := b / 4 + s) (by omega) (by omega), w64 (x := s + 1) (by omega) (by omega)]
  have hx : 0 ≤ a / 4 ∧ a / 4 ≤ 1073741823 := by omega
  have hy : 0 ≤ b / 4 ∧ b / 4 ≤ 1073741823 := by omega
  generalize a / 4 = x at *
  generalize b / 4 = y at *
  have u := upv_bd x s
  have v := upv_bd y s
  rw [cl_id hx.1 hx.2, cl_id (t := s) (by omega) (by omega)] at u
  rw [cl_id hy.1 hy.2, cl_id (t := s) (by omega) (by omega)] at v
  simp only [up_is, Option.bind_some]
  rw [if_neg (by omega), if_neg (by omega), if_neg (by omega), if_neg (by omega), if_neg (by omega)]
  have e : (Int.tmod (upv x s) (s + 1) != 0) = false := by
    rw [Int.tmod_eq_emod_of_nonneg (by omega), u.2.2]; rfl
  rw [e]
  exact j0_is 0 x y s hx hy

end Go.Proofs.Ythljanmfanppdaa.Pure
