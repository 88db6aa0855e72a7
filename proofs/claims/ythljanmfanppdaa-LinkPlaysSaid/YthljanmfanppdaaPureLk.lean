/- What is proved: waits, jitters and dues as plain functions of numbers: a wait is its base doubled that often, but no more than its most; dues are sums of times. -/
import Derived.Test.YthljanmfanppdaaKBackx1
import Derived.Test.YthljanmfanppdaaKBackx3
namespace Go.Proofs.Ythljanmfanppdaa.PureLk
open Go.RowKit Go.Proofs.Ythljanmfanppdaa.KBack Go.Proofs.YthljanmfanppdaaW.PrintWords Go.Proofs.YthljanmfanppdaaW.PrintLast Go.Proofs.YthljanmfanppdaaW.PrintMore
open Go.Proofs.Ythljanmfanppdaa.Kw (cfBad cfLeast cfMost)

/-! ### Times -/
def cl (t : Int) : Int := if t < 0 then 0 else if 1073741823 < t then 1073741823 else t
theorem cl_bd (t : Int) : 0 ≤ cl t ∧ cl t ≤ 1073741823 := by
  unfold cl
  repeat' split
  all_goals omega
theorem cl_id {t : Int} (h0 : 0 ≤ t) (h1 : t ≤ 1073741823) : cl t = t := by unfold cl; rw [if_neg (by omega), if_neg (by omega)]
theorem w64 {x : Int} (h0 : -9223372036854775808 ≤ x) (h1 : x < 9223372036854775808) : wrap64 x = x := by
  unfold wrap64; omega
theorem clock_is (t : Int) : round_clock.f t = some (cl t) := by
  unfold round_clock.f mn mx cl
  congr 1
  repeat' split
  all_goals omega
theorem rclock_is (t : Int) : knellref04_Clock.f t = some (cl t) := by
  unfold knellref04_Clock.f cl
  repeat' split
  all_goals (first | rfl | omega)

/-- One time more; the sum. -/
def add (s t : Int) : Int := cl (s + cl t)
def sum (l : List Int) (s : Int) : Int := l.foldl add s
theorem add_bd (s t : Int) : 0 ≤ add s t ∧ add s t ≤ 1073741823 := cl_bd _
theorem drop_step (l : List Int) (i : Nat) (h : i < l.length) : l.drop i = l[i] :: l.drop (i + 1) := List.drop_eq_getElem_cons h
theorem rd_nat (l : List Int) (i : Nat) (h : i < l.length) : rd l (i : Int) = l[i] := by
  unfold rd
  simp [List.getD_eq_getElem?_getD, h]

theorem plus_loop (l : List Int) (hl : l.length ≤ 17592186044416) : ∀ (d k i : Nat) (s : Int), i + d = l.length → d < k → 0 ≤ s → s ≤ 1073741823 →
    round_Plus.l0 k s l (l.length : Int) (i : Int) = some (sum (l.drop i) s) := by
  intro d
  induction d with
  | zero =>
    intro k i s hi hk _ _
    obtain ⟨k, rfl⟩ : ∃ m, k = m + 1 := ⟨k - 1, by omega⟩
    simp only [round_Plus.l0]
    rw [if_neg (by omega), List.drop_eq_nil_of_le (by omega)]; rfl
  | succ d ih =>
    intro k i s hi hk h0 h1
    obtain ⟨k, rfl⟩ : ∃ m, k = m + 1 := ⟨k - 1, by omega⟩
    have hb := cl_bd (rd l (i : Int))
    simp only [round_Plus.l0]
    rw [if_pos (by omega), if_pos (by omega), if_pos (by omega)]
    simp only [clock_is, Option.bind_some]
    rw [w64 (x := s + cl (rd l (i : Int))) (by omega) (by omega), w64 (x := (i : Int) + 1) (by omega) (by omega)]
    have e : ((i : Int) + 1) = ((i + 1 : Nat) : Int) := by omega
    rw [e, ih k (i + 1) (cl (s + cl (rd l (i : Int)))) (by omega) (by omega) (cl_bd _).1 (cl_bd _).2, drop_step l i (by omega), rd_nat l i (by omega)]
    rfl
theorem plus_is (l : List Int) (hl : l.length ≤ 17592186044416) (k : Nat) (hk : l.length < k) : round_Plus.f k l = some (sum l 0) := by
  unfold round_Plus.f
  exact plus_loop l hl l.length k 0 0 (by omega) hk (by omega) (by omega)
theorem rplus_loop (l : List Int) (hl : l.length ≤ 17592186044416) : ∀ (d k i : Nat) (s : Int), i + d = l.length → d < k → 0 ≤ s → s ≤ 1073741823 →
    knellref04_Plus.l0 k l s (i : Int) = some (sum (l.drop i) s) := by
  intro d
  induction d with
  | zero =>
    intro k i s hi hk _ _
    obtain ⟨k, rfl⟩ : ∃ m, k = m + 1 := ⟨k - 1, by omega⟩
    simp only [knellref04_Plus.l0]
    rw [if_neg (by omega), List.drop_eq_nil_of_le (by omega)]; rfl
  | succ d ih =>
    intro k i s hi hk h0 h1
    obtain ⟨k, rfl⟩ : ∃ m, k = m + 1 := ⟨k - 1, by omega⟩
    have hb := cl_bd (rd l (i : Int))
    simp only [knellref04_Plus.l0]
    rw [if_pos (by omega), if_pos (by omega)]
    simp only [rclock_is, Option.bind_some]
    rw [w64 (x := s + cl (rd l (i : Int))) (by omega) (by omega), w64 (x := (i : Int) + 1) (by omega) (by omega)]
    have e : ((i : Int) + 1) = ((i + 1 : Nat) : Int) := by omega
    rw [e, drop_step l i (by omega)]
    by_cases h : s + cl (rd l (i : Int)) > 1073741823
    · rw [if_pos h, ih k (i + 1) 1073741823 (by omega) (by omega) (by omega) (by omega)]
      have : add s l[i] = 1073741823 := by
        unfold add
        rw [← rd_nat l i (by omega)]
        rw [cl, if_neg (by omega), if_pos (by omega)]
      show some (sum _ _) = some (sum _ (add s l[i]))
      rw [this]
    · rw [if_neg h, ih k (i + 1) (s + cl (rd l (i : Int))) (by omega) (by omega) (by omega) (by omega)]
      have : add s l[i] = s + cl (rd l (i : Int)) := by
        unfold add
        rw [← rd_nat l i (by omega)]
        exact cl_id (by omega) (by omega)
      show some (sum _ _) = some (sum _ (add s l[i]))
      rw [this]
theorem rplus_is (l : List Int) (hl : l.length ≤ 17592186044416) (k : Nat) (hk : l.length < k) : knellref04_Plus.f k l = some (sum l 0) := by
  unfold knellref04_Plus.f
  exact rplus_loop l hl l.length k 0 0 (by omega) hk (by omega) (by omega)
theorem sum_one (a : Int) : sum [a] 0 = cl a := by
  show cl (0 + cl a) = cl a
  have := cl_bd a
  rw [show 0 + cl a = cl a by omega, cl_id this.1 this.2]

/-! ### Waits -/
/-- A time doubled so often. -/
def dbl : Nat → Int → Int
  | 0, b => b
  | n + 1, b => dbl n (mn (b * 2) 1073741823)
theorem mn_bd {b : Int} (h : 0 ≤ b) : 0 ≤ mn (b * 2) 1073741823 ∧ mn (b * 2) 1073741823 ≤ 1073741823 := by unfold mn; split <;> omega
theorem dbl_bd (n : Nat) : ∀ b, 0 ≤ b → b ≤ 1073741823 → 0 ≤ dbl n b ∧ dbl n b ≤ 1073741823 := by
  induction n with
  | zero => intro b h0 h1; exact ⟨h0, h1⟩
  | succ n ih => intro b h0 _; exact ih _ (mn_bd h0).1 (mn_bd h0).2
theorem dbl_succ (n : Nat) : ∀ b, dbl (n + 1) b = mn (dbl n b * 2) 1073741823 := by
  induction n with
  | zero => intro b; rfl
  | succ n ih => intro b; exact ih _
theorem dbl_zero (n : Nat) : dbl n 0 = 0 := by
  induction n with
  | zero => rfl
  | succ n ih => exact ih
theorem dbl_most (n : Nat) : dbl n 1073741823 = 1073741823 := by
  induction n with
  | zero => rfl
  | succ n ih => exact ih
/-- How long to wait. -/
def wt (b m a : Int) : Int := mn (dbl (mn (mx a 0) 31).toNat (cl b)) (cl m)

theorem wait_loop (m : Int) : ∀ (d k i : Nat) (n : Int) (b : Int), (i : Int) + d = n → n ≤ 31 → d < k → 0 ≤ b → b ≤ 1073741823 → backoff_Wait.l0 k b m n (i : Int) = some (mn (dbl d b) m) := by
  intro d
  induction d with
  | zero =>
    intro k i n b hi hn hk _ _
    obtain ⟨k, rfl⟩ : ∃ j, k = j + 1 := ⟨k - 1, by omega⟩
    simp only [backoff_Wait.l0]
    rw [if_neg (by omega)]; rfl
  | succ d ih =>
    intro k i n b hi hn hk h0 h1
    obtain ⟨k, rfl⟩ : ∃ j, k = j + 1 := ⟨k - 1, by omega⟩
    simp only [backoff_Wait.l0]
    rw [if_pos (by omega), w64 (x := b * 2) (by omega) (by omega), w64 (x := (i : Int) + 1) (by omega) (by omega)]
    have e : ((i : Int) + 1) = ((i + 1 : Nat) : Int) := by omega
    rw [e, ih k (i + 1) n _ (by omega) hn (by omega) (mn_bd h0).1 (mn_bd h0).2]
    rfl
theorem att_bd (a : Int) : 0 ≤ mn (mx a 0) 31 ∧ mn (mx a 0) 31 ≤ 31 := by
  unfold mn mx
  repeat' split
  all_goals omega
theorem wait_is (b m a : Int) (k : Nat) (hk : 40 ≤ k) : backoff_Wait.f k b m a = some (wt b m a) := by
  unfold backoff_Wait.f
  rw [plus_is [b] (by simp) k (by simp; omega), Option.bind_some, plus_is [m] (by simp) k (by simp; omega), Option.bind_some, sum_one, sum_one]
  have h := att_bd a
  have hb := cl_bd b
  exact wait_loop (cl m) (mn (mx a 0) 31).toNat k 0 _ (cl b) (by omega) h.2 (by omega) hb.1 hb.2

theorem speaks_is (k : Nat) (hk : 40 ≤ k) : knelllaw23_speaks.f k = some true := by
  unfold knelllaw23_speaks.f
  rw [wait_is _ _ _ k hk, wait_is _ _ _ k hk, wait_is _ _ _ k hk]
  rfl

/-! The document's wait: doubled as long as that matters. -/
theorem rwait_j1 (m w : Int) (k : Nat) (hk : 1 ≤ k) : knellref23_Wait.j1 k m w = some (mn w (cl m)) := by
  obtain ⟨k, rfl⟩ : ∃ j, k = j + 1 := ⟨k - 1, by omega⟩
  simp only [knellref23_Wait.j1, rclock_is, Option.bind_some]
  unfold mn
  split <;> rfl
/-- What doubling comes to, when it has gone on till it no longer matters. -/
theorem dbl_settled (w : Int) (n : Nat) (h : w = 0 ∨ w = 1073741823) : dbl n w = w := by
  rcases h with rfl | rfl
  · exact dbl_zero n
  · exact dbl_most n
/-- A doubled number that passes the most counts as the most. -/
theorem mn_cap (w c : Int) (h : 1073741823 ≤ w) (hc : c ≤ 1073741823) : mn w c = c := by unfold mn; split <;> omega
theorem rwait_loop (m a : Int) : ∀ (d k i : Nat) (w b : Int), (b = w ∨ 1073741823 ≤ w ∧ b = 1073741823) → 0 ≤ b → b ≤ 1073741823 → 0 ≤ w → w ≤ 2147483648 → (1 ≤ w → w < 1073741823 → 1073741824 ≤ w * 2 ^ d) →
    d + 2 ≤ k → i + d ≤ 100 → knellref23_Wait.l0 k m a w (i : Int) = some (mn (dbl (a - i).toNat b) (cl m)) := by
  intro d
  induction d with
  | zero =>
    intro k i w b hbw hb0 hb1 hw0 hw2 hd hk hi
    obtain ⟨k, rfl⟩ : ∃ j, k = j + 1 := ⟨k - 1, by omega⟩
    have hc := cl_bd m
    have fin : knellref23_Wait.j1 k m w = some (mn (dbl (a - i).toNat b) (cl m)) ∨ (0 < w ∧ w < 1073741823) := by
      by_cases h : 0 < w ∧ w < 1073741823
      · exact .inr h
      · left
        rw [rwait_j1 m w k (by omega)]
        rcases hbw with rfl | ⟨h1, h2⟩
        · rw [dbl_settled b _ (by omega)]
        · subst h2
          rw [dbl_most, mn_cap w _ h1 hc.2, mn_cap _ _ (by omega) hc.2]
    rcases fin with fin | h
    · simp only [knellref23_Wait.l0]
      by_cases ha : (i : Int) < a
      · rw [if_pos ha]
        by_cases h0 : w > 0
        · rw [if_pos h0]
          by_cases h1 : w < 1073741823
          · have := hd (by omega) h1; omega
          · rw [if_neg h1]; exact fin
        · rw [if_neg h0]; exact fin
      · rw [if_neg ha]; exact fin
    · have := hd (by omega) h.2; omega
  | succ d ih =>
    intro k i w b hbw hb0 hb1 hw0 hw2 hd hk hi
    obtain ⟨k, rfl⟩ : ∃ j, k = j + 1 := ⟨k - 1, by omega⟩
    have hc := cl_bd m
    simp only [knellref23_Wait.l0]
    by_cases h : 0 < w ∧ w < 1073741823
    · obtain rfl : b = w := by omega
      by_cases ha : (i : Int) < a
      · rw [if_pos ha, if_pos h.1, if_pos h.2, w64 (x := b + b) (by omega) (by omega), w64 (x := (i : Int) + 1) (by omega) (by omega)]
        have e : ((i : Int) + 1) = ((i + 1 : Nat) : Int) := by omega
        have e2 : (a - i).toNat = (a - ((i + 1 : Nat) : Int)).toNat + 1 := by omega
        rw [e, ih k (i + 1) (b + b) (mn (b * 2) 1073741823) (by unfold mn; split <;> omega) (mn_bd hb0).1 (mn_bd hb0).2 (by omega) (by omega) (fun _ _ => by
          have := hd (by omega) h.2
          rw [Int.pow_succ] at this
          rw [show b + b = b * 2 by omega, Int.mul_assoc, Int.mul_comm 2]
          exact this) (by omega) (by omega), e2]
        rfl
      · rw [if_neg ha, rwait_j1 m b k (by omega), show (a - i).toNat = 0 by omega]; rfl
    · have fin : knellref23_Wait.j1 k m w = some (mn (dbl (a - i).toNat b) (cl m)) := by
        rw [rwait_j1 m w k (by omega)]
        rcases hbw with rfl | ⟨h1, h2⟩
        · rw [dbl_settled b _ (by omega)]
        · subst h2
          rw [dbl_most, mn_cap w _ h1 hc.2, mn_cap _ _ (by omega) hc.2]
      by_cases ha : (i : Int) < a
      · rw [if_pos ha]
        by_cases h0 : w > 0
        · rw [if_pos h0, if_neg (by omega)]; exact fin
        · rw [if_neg h0]; exact fin
      · rw [if_neg ha]; exact fin

theorem dbl_add (n m : Nat) : ∀ b, dbl (n + m) b = dbl m (dbl n b) := by
  induction n with
  | zero => intro b; rw [Nat.zero_add]; rfl
  | succ n ih => intro b; rw [show n + 1 + m = (n + m) + 1 by omega]; exact ih _
theorem dbl_ge (n : Nat) (b : Int) : 1073741823 ≤ dbl n b ∨ b * 2 ^ n ≤ dbl n b := by
  induction n with
  | zero => right; simp [dbl]
  | succ n ih =>
    rw [dbl_succ]
    unfold mn
    rw [Int.pow_succ, ← Int.mul_assoc]
    generalize b * 2 ^ n = c at *
    split <;> omega
theorem dbl_31 (b : Int) (h0 : 0 ≤ b) (h1 : b ≤ 1073741823) : dbl 31 b = 0 ∨ dbl 31 b = 1073741823 := by
  by_cases h : b = 0
  · left; rw [h]; exact dbl_zero 31
  · right
    have h2 := dbl_bd 31 b h0 h1
    rcases dbl_ge 31 b with h3 | h3
    · omega
    · rw [show (2 : Int) ^ 31 = 2147483648 by decide] at h3
      omega
theorem dbl_stop (n : Nat) (b : Int) (h0 : 0 ≤ b) (h1 : b ≤ 1073741823) (hn : 31 ≤ n) : dbl n b = dbl 31 b := by
  rw [show n = 31 + (n - 31) by omega, dbl_add, dbl_settled _ _ (dbl_31 b h0 h1)]
theorem rwait_is (b m a : Int) (k : Nat) (hk : 40 ≤ k) : knellref23_Wait.f k b m a = some (wt b m a) := by
  unfold knellref23_Wait.f
  rw [rclock_is, Option.bind_some]
  have hb := cl_bd b
  have := rwait_loop m a 31 k 0 (cl b) (cl b) (.inl rfl) hb.1 hb.2 hb.1 (by omega) (fun h _ => by
    have : (2 : Int) ^ 31 = 2147483648 := by decide
    rw [this]; omega) (by omega) (by omega)
  rw [show ((0 : Nat) : Int) = 0 from rfl] at this
  rw [this]
  unfold wt
  congr 2
  have ha := att_bd a
  by_cases h : a ≤ 31
  · congr 1
    unfold mn mx
    repeat' split
    all_goals omega
  · have e : mn (mx a 0) 31 = 31 := by
      unfold mn mx
      repeat' split
      all_goals omega
    rw [e]
    exact dbl_stop _ _ hb.1 hb.2 (by omega)

/-! ### Jitters, dues, all waits -/
def jit (d m : Int) : Int := mx d 0 % (cl m + 1)
theorem mx_nn (d : Int) : 0 ≤ mx d 0 := by unfold mx; split <;> omega
theorem jit_bd (d m : Int) : 0 ≤ jit d m ∧ jit d m ≤ cl m := by
  have := cl_bd m
  unfold jit
  exact ⟨Int.emod_nonneg _ (by omega), by have := Int.emod_lt_of_pos (mx d 0) (show 0 < cl m + 1 by omega); omega⟩
theorem jitter_is (d m : Int) (k : Nat) (hk : 40 ≤ k) : backoff_Jitter.f k d m = some (jit d m) := by
  have := cl_bd m
  unfold backoff_Jitter.f
  rw [plus_is [m] (by simp) k (by simp; omega), Option.bind_some, sum_one, w64 (x := cl m + 1) (by omega) (by omega), if_neg (by omega)]
  rfl
theorem rjitter_is (d m : Int) : knellref23_Jitter.f d m = some (jit d m) := by
  have := cl_bd m
  unfold knellref23_Jitter.f
  by_cases h : d < 0
  · rw [if_pos h]
    unfold jit
    rw [show mx d 0 = 0 by unfold mx; rw [if_pos h], Int.zero_emod]
  · rw [if_neg h, rclock_is, Option.bind_some, w64 (x := cl m + 1) (by omega) (by omega), if_neg (by omega)]
    unfold jit
    rw [show mx d 0 = d by unfold mx; rw [if_neg h], Int.tmod_eq_emod_of_nonneg (by omega)]

section
variable (c0 c1 c2 c3 c4 c5 c6 c7 c8 c9 c10 c11 c12 : Int)
def due (now a d : Int) : Int := sum [now, wt c9 c10 a, jit d c11] 0
def idle (last : Int) : Int := sum [last, c8] 0
theorem due_is (now a d : Int) (k : Nat) (hk : 40 ≤ k) : backoff_Due.f k c0 c1 c2 c3 c4 c5 c6 c7 c8 c9 c10 c11 c12 now a d = some (due c9 c10 c11 now a d) := by
  unfold backoff_Due.f
  rw [wait_is _ _ _ k hk, Option.bind_some, jitter_is _ _ k hk, Option.bind_some, plus_is _ (by simp) k (by simp; omega)]
  rfl
theorem rdue_is (now a d : Int) (k : Nat) (hk : 40 ≤ k) : knellref23_Due.f k c0 c1 c2 c3 c4 c5 c6 c7 c8 c9 c10 c11 c12 now a d = some (due c9 c10 c11 now a d) := by
  unfold knellref23_Due.f
  rw [rwait_is _ _ _ k hk, Option.bind_some, rjitter_is, Option.bind_some, rplus_is _ (by simp) k (by simp; omega)]
  rfl
theorem idle_is (last : Int) (k : Nat) (hk : 40 ≤ k) : backoff_Idle.f k c0 c1 c2 c3 c4 c5 c6 c7 c8 c9 c10 c11 c12 last = some (idle c8 last) := by
  unfold backoff_Idle.f
  rw [plus_is _ (by simp) k (by simp; omega)]
  rfl
end
theorem cfBad_ok (l : List Int) : ∀ (d : Nat) (i : Int), (cfBad l d i).2 = 0 → ∀ j : Nat, j < d → cfLeast (i + j) ≤ l.getD (i + j).toNat 0 ∧ l.getD (i + j).toNat 0 ≤ cfMost (i + j) := by
  intro d
  induction d with
  | zero => intro i _ j hj; omega
  | succ d ih =>
    intro i h j hj
    unfold cfBad at h
    by_cases hc : l.getD i.toNat 0 < cfLeast i ∨ cfMost i < l.getD i.toNat 0
    · rw [if_pos hc] at h
      simp at h
    · rw [if_neg hc] at h
      cases j with
      | zero => simp only [Int.natCast_zero, Int.add_zero]; omega
      | succ j =>
        have := ih (i + 1) h j (by omega)
        rw [show i + ((j + 1 : Nat) : Int) = i + 1 + (j : Int) by omega]
        exact this
section
variable (c0 c1 c2 c3 c4 c5 c6 c7 c8 c9 c10 c11 c12 : Int)
/-- May a configuration be? -/
def rightB : Bool := (cfBad [c0, c1, c2, c3, c4, c5, c6, c7, c8, c9, c10, c11, c12] 13 0).2 == 0
theorem right_is : knellref03_Right.f c0 c1 c2 c3 c4 c5 c6 c7 c8 c9 c10 c11 c12 = some (rightB c0 c1 c2 c3 c4 c5 c6 c7 c8 c9 c10 c11 c12) := by
  unfold knellref03_Right.f knellref03_Check.f rightB
  rfl
theorem right_bd (h : rightB c0 c1 c2 c3 c4 c5 c6 c7 c8 c9 c10 c11 c12 = true) : (1 ≤ c8 ∧ c8 ≤ 1073741823) ∧ (1 ≤ c9 ∧ c9 ≤ 1073741823) ∧ (1 ≤ c10 ∧ c10 ≤ 1073741823) ∧ (0 ≤ c11 ∧ c11 ≤ 1073741823) ∧ (0 ≤ c12 ∧ c12 ≤ 31) := by
  unfold rightB at h
  have h1 := cfBad_ok _ _ _ (beq_iff_eq.1 h)
  exact ⟨h1 8 (by omega), h1 9 (by omega), h1 10 (by omega), h1 11 (by omega), h1 12 (by omega)⟩
end

theorem dbl_up (n : Nat) (b : Int) (h0 : 0 ≤ b) (h1 : b ≤ 1073741823) : dbl n b ≤ dbl (n + 1) b ∧ dbl (n + 1) b ≤ 2 * dbl n b := by
  have := dbl_bd n b h0 h1
  rw [dbl_succ]
  unfold mn
  split <;> omega
theorem dbl_base (n : Nat) (b : Int) (h0 : 0 ≤ b) (h1 : b ≤ 1073741823) : b ≤ dbl n b := by
  induction n with
  | zero => exact Int.le_refl _
  | succ n ih => have := dbl_up n b h0 h1; omega
theorem wt_bd (b m a : Int) : 0 ≤ wt b m a ∧ wt b m a ≤ cl m := by
  have h := dbl_bd (mn (mx a 0) 31).toNat (cl b) (cl_bd b).1 (cl_bd b).2
  have hm := cl_bd m
  unfold wt
  generalize dbl (mn (mx a 0) 31).toNat (cl b) = x at *
  unfold mn
  split <;> omega
theorem wt_base (b m a : Int) : mn (cl b) (cl m) ≤ wt b m a := by
  have h := dbl_base (mn (mx a 0) 31).toNat (cl b) (cl_bd b).1 (cl_bd b).2
  unfold wt
  generalize dbl (mn (mx a 0) 31).toNat (cl b) = x at *
  unfold mn
  split <;> split <;> omega
/-- One attempt more. -/
theorem wt_up (b m a : Int) (ha : 0 ≤ a) : wt b m a ≤ wt b m (a + 1) ∧ wt b m (a + 1) ≤ 2 * wt b m a := by
  have hm := cl_bd m
  have hb := cl_bd b
  by_cases h : a < 31
  · have e1 : (mn (mx a 0) 31).toNat = a.toNat := by
      unfold mn mx
      repeat' split
      all_goals omega
    have e2 : (mn (mx (a + 1) 0) 31).toNat = a.toNat + 1 := by
      unfold mn mx
      repeat' split
      all_goals omega
    unfold wt
    rw [e1, e2]
    have h1 := dbl_up a.toNat (cl b) hb.1 hb.2
    have h2 := dbl_bd a.toNat (cl b) hb.1 hb.2
    generalize dbl a.toNat (cl b) = x at *
    generalize dbl (a.toNat + 1) (cl b) = y at *
    unfold mn
    split <;> split <;> omega
  · have e1 : mn (mx a 0) 31 = 31 := by
      unfold mn mx
      repeat' split
      all_goals omega
    have e2 : mn (mx (a + 1) 0) 31 = 31 := by
      unfold mn mx
      repeat' split
      all_goals omega
    have e : wt b m (a + 1) = wt b m a := by unfold wt; rw [e1, e2]
    rw [e]
    have := wt_bd b m a
    omega

theorem sum3 (a b c : Int) (ha : 0 ≤ a ∧ a ≤ 1073741823) (hb : 0 ≤ b ∧ b ≤ 1073741823) (hc : 0 ≤ c ∧ c ≤ 1073741823) : sum [a, b, c] 0 = mn (a + b + c) 1073741823 := by
  show add (add (add 0 a) b) c = _
  unfold add
  rw [cl_id ha.1 ha.2, cl_id hb.1 hb.2, cl_id hc.1 hc.2]
  unfold cl mn
  repeat' split
  all_goals omega
theorem sum2 (a b : Int) (ha : 0 ≤ a ∧ a ≤ 1073741823) (hb : 0 ≤ b ∧ b ≤ 1073741823) : sum [a, b] 0 = mn (a + b) 1073741823 := by
  show add (add 0 a) b = _
  unfold add
  rw [cl_id ha.1 ha.2, cl_id hb.1 hb.2]
  unfold cl mn
  repeat' split
  all_goals omega

end Go.Proofs.Ythljanmfanppdaa.PureLk
