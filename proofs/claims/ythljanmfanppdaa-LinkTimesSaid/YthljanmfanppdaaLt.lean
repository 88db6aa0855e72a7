/- What is proved: what the law LinkTimes remembers of one connection agrees with the connection's state, event by event; plain, no program in sight. -/
import Derived.Test.YthljanmfanppdaaLa
namespace Go.Proofs.Ythljanmfanppdaa.Bk
open Go.RowKit Go.Maps Go.Proofs.YthljanmfanppdaaW.PrintWords Go.Proofs.YthljanmfanppdaaW.PrintLast Go.Proofs.YthljanmfanppdaaW.PrintMore Go.Proofs.Ythljanmfanppdaa.Mp Go.Proofs.Ythljanmfanppdaa.KLa
open Go.Proofs.Ythljanmfanppdaa.PureLk (cl sum add wt wt_bd right_bd rightB)
set_option linter.unusedVariables false
set_option linter.unusedSimpArgs false
/-- A connection's state, and the law's last activity, due time and retries. -/
structure TJ (c : Cf) (s : St) (a d r : Int) : Prop where
  att : 0 ≤ s.2.1 ∧ s.2.1 ≤ 31
  r0 : 0 ≤ r ∧ r ≤ 31
  one : s.1 = 1 → s.2.2 = a ∧ 0 ≤ a ∧ r = 0
  two : s.1 = 2 → r + 1 ≤ s.2.1 ∧ s.2.1 ≤ c.c12 ∧ mn d 1073741823 ≤ s.2.2
  three : s.1 = 3 → r ≤ s.2.1 ∧ s.2.1 ≤ c.c12
theorem put_at (F : SM) (x : Int) (u : St) : (F.put x u).at_ x = if u.1 = 0 then (0, 0, 0) else u := by
  unfold SM.at_ SM.put
  rw [if_pos rfl]
  split <;> rfl
theorem TJ.zero {c : Cf} {s : St} {a d r : Int} (h : TJ c s a d r) : TJ c (0, 0, 0) a d r :=
  ⟨⟨by show (0 : Int) ≤ 0; decide, by show (0 : Int) ≤ 31; decide⟩, h.r0, fun e => absurd (show (0 : Int) = 1 from e) (by decide), fun e => absurd (show (0 : Int) = 2 from e) (by decide), fun e => absurd (show (0 : Int) = 3 from e) (by decide)⟩
theorem cf_bd {c : Cf} (h : cfCode c = 0) : (1 ≤ c.c8 ∧ c.c8 ≤ 1073741823) ∧ (1 ≤ c.c9 ∧ c.c9 ≤ 1073741823) ∧ (1 ≤ c.c10 ∧ c.c10 ≤ 1073741823) ∧ (0 ≤ c.c11 ∧ c.c11 ≤ 1073741823) ∧ (0 ≤ c.c12 ∧ c.c12 ≤ 31) :=
  right_bd c.c0 c.c1 c.c2 c.c3 c.c4 c.c5 c.c6 c.c7 c.c8 c.c9 c.c10 c.c11 c.c12 (by unfold rightB; exact beq_iff_eq.2 h)
theorem cl_up (x : Int) (h : 0 ≤ x) : cl x = if 1073741823 < x then 1073741823 else x := by unfold cl; rw [if_neg (by omega)]
theorem mn_le (a b : Int) : mn a b ≤ a ∧ mn a b ≤ b := by unfold mn; split <;> omega
theorem due_ge (t w j : Int) (h0 : 0 ≤ t) (hw : 0 ≤ w ∧ w ≤ 1073741823) : mn (wrap64 (t + w)) 1073741823 ≤ sum [t, w, j] 0 := by
  show mn (wrap64 (t + w)) 1073741823 ≤ cl (cl (cl (0 + cl t) + cl w) + cl j)
  have e : wrap64 (t + w) ≤ t + w := by unfold wrap64; omega
  have hj : 0 ≤ cl j ∧ cl j ≤ 1073741823 := PureLk.cl_bd j
  have hm := mn_le (wrap64 (t + w)) 1073741823
  have ht : cl t = t ∧ t ≤ 1073741823 ∨ cl t = 1073741823 ∧ 1073741823 < t := by rw [cl_up t h0]; split <;> omega
  rw [PureLk.cl_id hw.1 hw.2]
  generalize cl j = j at *
  generalize mn (wrap64 (t + w)) 1073741823 = z at *
  generalize cl t = u at *
  have hu : 0 ≤ u ∧ u ≤ 1073741823 := by omega
  rw [show cl (0 + u) = u by rw [Int.zero_add]; exact PureLk.cl_id hu.1 hu.2]
  have h1 : cl (u + w) = u + w ∨ cl (u + w) = 1073741823 := by rw [cl_up _ (by omega)]; split <;> omega
  have h1' := PureLk.cl_bd (u + w)
  generalize hq : cl (u + w) = v at *
  have h2 : cl (v + j) = v + j ∨ cl (v + j) = 1073741823 := by rw [cl_up _ (by omega)]; split <;> omega
  omega
theorem idle_eq (s t : Int) (h0 : 0 ≤ s) (ht : 1 ≤ t ∧ t ≤ 1073741823) : mn (wrap64 (s + t)) 1073741823 ≤ sum [s, t] 0 := by
  show mn (wrap64 (s + t)) 1073741823 ≤ cl (cl (0 + cl s) + cl t)
  have e : wrap64 (s + t) ≤ s + t := by unfold wrap64; omega
  generalize wrap64 (s + t) = z at *
  unfold mn cl
  repeat' split
  all_goals omega
theorem after_code (c : Cf) (F : SM) (op cn t draw : Int) (h : (afterF c F op cn t draw).2.1 ≠ 0) : (afterF c F op cn t draw).1 = (0, 0, 0) := by
  unfold afterF at h ⊢
  split
  · rename_i q; rw [if_pos q] at h; exact absurd rfl h
  rename_i q; rw [if_neg q] at h
  split
  · rename_i q; rw [if_pos q] at h; exact absurd rfl h
  rename_i q; rw [if_neg q] at h
  split
  · rfl
  rename_i q; rw [if_neg q] at h
  split
  · rename_i q; rw [if_pos q] at h; exact absurd rfl h
  rename_i q; rw [if_neg q] at h
  split
  · rename_i q
    rw [if_pos q] at h
    split
    · rfl
    · rename_i q2; rw [if_neg q2] at h; exact absurd rfl h
  · rename_i q; rw [if_neg q] at h; exact absurd rfl h
theorem lr_four {k wk op cn t dr er : Int} (h : lrB k wk op cn t dr er = true) (hk : k = 4) : er = 0 := by
  subst hk
  unfold lrB at h
  simp only [Bool.and_eq_true] at h
  have := h.2.2.2.2.2.2.2.2.2
  simpa [lkE] using this
theorem lr_t {k wk op cn t dr er : Int} (h : lrB k wk op cn t dr er = true) : 0 ≤ t := by
  unfold lrB at h
  simp only [Bool.and_eq_true] at h
  have := h.2.2.1
  simpa using this
theorem lr_ok {k wk op cn t dr er : Int} (h : lrB k wk op cn t dr er = true) : lkOk k op = true := by
  unfold lrB at h
  simp only [Bool.and_eq_true] at h
  exact h.1
theorem times_skip {c : Cf} {clk : Int} {F : SM} {k wk op cn t dr er draw x a d r : Int} (h : TJ c (F.at_ x) a d r) (hs : (doF c clk F k wk op cn t dr er draw).1 ≠ 0 ∨ cn ≠ x ∨ er ≠ 0 ∨ k = 1) : TJ c ((doF c clk F k wk op cn t dr er draw).2.2.at_ x) a d r := by
  by_cases hq : x ≠ cn ∨ (doF c clk F k wk op cn t dr er draw).1 ≠ 0 ∨ k = 1
  · rw [apart_is _ _ _ _ _ _ _ _ _ _ _ _ hq]; exact h
  have hx : x = cn := Classical.byContradiction fun e => hq (.inl e)
  have hk : ¬ k = 1 := fun e => hq (.inr (.inr e))
  have hc : (doF c clk F k wk op cn t dr er draw).1 = 0 := Classical.byContradiction fun e => hq (.inr (.inl e))
  subst hx
  have he : er ≠ 0 := by
    rcases hs with e | e | e | e
    · exact absurd hc e
    · exact absurd rfl e
    · exact e
    · exact absurd e hk
  unfold doF at hc ⊢
  split
  · exact h
  rename_i hr
  rw [if_neg hr] at hc
  rw [if_neg hk] at hc
  split
  · rename_i k4
    exact absurd (lr_four (by simpa using hr) k4) he
  rename_i k4
  rw [if_neg k4] at hc
  split
  · rename_i k3
    rw [if_pos k3] at hc
    split
    · exact h
    split
    · rename_i h2
      have hz : (afterF c F op x t draw).1 = (0, 0, 0) := after_code c F op x t draw (by rw [← h2.2]; exact he)
      show TJ c ((F.put x (afterF c F op x t draw).1).at_ x) a d r
      rw [hz, put_at, if_pos rfl]
      exact h.zero
    · exact h
  · exact h
/-- What comes about at an event of the connection's own that can be. -/
theorem times_do {c : Cf} {clk : Int} {F : SM} {k wk op cn t dr draw a d r : Int} (hf : cfCode c = 0) (h : TJ c (F.at_ cn) a d r) (h0 : (doF c clk F k wk op cn t dr 0 draw).1 = 0) (hk : k ≠ 1) :
    ((op = 1 ∨ op = 5) ∧ TJ c ((doF c clk F k wk op cn t dr 0 draw).2.2.at_ cn) t d 0) ∨
    (op = 2 ∧ TJ c ((doF c clk F k wk op cn t dr 0 draw).2.2.at_ cn) (if a < t then t else a) d r) ∨
    (op = 3 ∧ TJ c ((doF c clk F k wk op cn t dr 0 draw).2.2.at_ cn) a d r) ∨
    (op = 4 ∧ ∀ W, mn W c.c10 = wt c.c9 c.c10 (F.at_ cn).2.1 → TJ c ((doF c clk F k wk op cn t dr 0 draw).2.2.at_ cn) a (wrap64 (t + mn W c.c10)) r) ∨
    (op = 7 ∧ ¬ t < mn (wrap64 (a + c.c8)) 1073741823 ∧ TJ c ((doF c clk F k wk op cn t dr 0 draw).2.2.at_ cn) a d r) ∨
    (op = 8 ∧ ¬ t < mn d 1073741823 ∧ ¬ wrap64 (r + 1) > c.c12 ∧ TJ c ((doF c clk F k wk op cn t dr 0 draw).2.2.at_ cn) a d (wrap64 (r + 1))) := by
  have hb := cf_bd hf
  have hat := h.att
  have hr0 := h.r0
  unfold doF at h0 ⊢
  by_cases hr : lrB k wk op cn t dr 0 = false
  · rw [if_pos hr] at h0; exact absurd h0 (by simp)
  rw [if_neg hr, if_neg hk] at h0 ⊢
  have ht := lr_t (by simpa using hr : lrB k wk op cn t dr 0 = true)
  by_cases k4 : k = 4
  · rw [if_pos k4] at h0 ⊢
    unfold actF at h0 ⊢
    by_cases h1 : t > clk
    · rw [if_pos h1] at h0; exact absurd h0 (by simp)
    rw [if_neg h1] at h0 ⊢
    by_cases h2 : op = 7 ∧ (F.at_ cn).1 = 1 ∧ idleI c (F.at_ cn).2.2 ≤ t
    · rw [if_pos h2] at h0 ⊢
      obtain ⟨e1, e2, e3⟩ := h.one h2.2.1
      refine .inr (.inr (.inr (.inr (.inl ⟨h2.1, ?_, ?_⟩))))
      · have := idle_eq a c.c8 e2 hb.1
        have h3 : sum [a, c.c8] 0 ≤ t := by rw [← e1]; exact h2.2.2
        omega
      · show TJ c ((F.put cn (0, 0, 0)).at_ cn) a d r
        rw [put_at, if_pos rfl]
        exact h.zero
    rw [if_neg h2] at h0 ⊢
    by_cases h3 : op = 8 ∧ (F.at_ cn).1 = 2 ∧ (F.at_ cn).2.2 ≤ t
    · rw [if_pos h3] at h0 ⊢
      obtain ⟨e1, e2, e3⟩ := h.two h3.2.1
      have hw : wrap64 (r + 1) = r + 1 := by unfold wrap64; omega
      rw [hw]
      refine .inr (.inr (.inr (.inr (.inr ⟨h3.1, by have := h3.2.2; omega, by omega, ?_⟩))))
      show TJ c ((F.put cn (3, (F.at_ cn).2.1, t)).at_ cn) a d (r + 1)
      rw [put_at, if_neg (by show ¬ (3 : Int) = 0; decide)]
      exact ⟨hat, ⟨by omega, by omega⟩, fun e => absurd (show (3 : Int) = 1 from e) (by decide), fun e => absurd (show (3 : Int) = 2 from e) (by decide), fun _ => ⟨e1, e2⟩⟩
    · rw [if_neg h3] at h0; exact absurd h0 (by simp)
  rw [if_neg k4] at h0 ⊢
  by_cases k3 : k = 3
  · rw [if_pos k3] at h0 ⊢
    rw [if_neg (by omega)] at h0 ⊢
    by_cases h2 : (afterF c F op cn t draw).2.2 = true ∧ 0 = (afterF c F op cn t draw).2.1
    · rw [if_pos h2]
      show ((op = 1 ∨ op = 5) ∧ TJ c ((F.put cn (afterF c F op cn t draw).1).at_ cn) t d 0) ∨
        (op = 2 ∧ TJ c ((F.put cn (afterF c F op cn t draw).1).at_ cn) (if a < t then t else a) d r) ∨
        (op = 3 ∧ TJ c ((F.put cn (afterF c F op cn t draw).1).at_ cn) a d r) ∨
        (op = 4 ∧ ∀ W, mn W c.c10 = wt c.c9 c.c10 (F.at_ cn).2.1 → TJ c ((F.put cn (afterF c F op cn t draw).1).at_ cn) a (wrap64 (t + mn W c.c10)) r) ∨ _ ∨ _
      rw [put_at]
      unfold afterF at h2 ⊢
      by_cases q1 : op = 1 ∧ (F.at_ cn).1 = 0 ∧ cn ≥ 0 ∧ cn < c.c7
      · rw [if_pos q1, if_neg (by show ¬ (1 : Int) = 0; decide)]
        exact .inl ⟨.inl q1.1, ⟨⟨by show (0 : Int) ≤ 0; decide, by show (0 : Int) ≤ 31; decide⟩, ⟨by decide, by decide⟩, fun _ => ⟨rfl, ht, rfl⟩, fun e => absurd (show (1 : Int) = 2 from e) (by decide), fun e => absurd (show (1 : Int) = 3 from e) (by decide)⟩⟩
      rw [if_neg q1] at h2 ⊢
      by_cases q2 : op = 2 ∧ (F.at_ cn).1 = 1
      · rw [if_pos q2, if_neg (by show ¬ (1 : Int) = 0; decide)]
        obtain ⟨e1, e2, e3⟩ := h.one q2.2
        refine .inr (.inl ⟨q2.1, ⟨hat, hr0, fun _ => ⟨?_, ?_, e3⟩, fun e => absurd (show (1 : Int) = 2 from e) (by decide), fun e => absurd (show (1 : Int) = 3 from e) (by decide)⟩⟩)
        · show (if t ≤ (F.at_ cn).2.2 then (F.at_ cn).2.2 else t) = if a < t then t else a
          rw [e1]
          repeat' split
          all_goals omega
        · split <;> omega
      rw [if_neg q2] at h2 ⊢
      by_cases q3 : op = 3 ∧ ¬ (F.at_ cn).1 = 0
      · rw [if_pos q3, if_pos rfl]
        exact .inr (.inr (.inl ⟨q3.1, h.zero⟩))
      rw [if_neg q3] at h2 ⊢
      by_cases q5 : op = 5 ∧ (F.at_ cn).1 = 3
      · rw [if_pos q5, if_neg (by show ¬ (1 : Int) = 0; decide)]
        exact .inl ⟨.inr q5.1, ⟨⟨by show (0 : Int) ≤ 0; decide, by show (0 : Int) ≤ 31; decide⟩, ⟨by decide, by decide⟩, fun _ => ⟨rfl, ht, rfl⟩, fun e => absurd (show (1 : Int) = 2 from e) (by decide), fun e => absurd (show (1 : Int) = 3 from e) (by decide)⟩⟩
      rw [if_neg q5] at h2 ⊢
      by_cases q4 : op = 4 ∧ ((F.at_ cn).1 = 1 ∨ (F.at_ cn).1 = 3)
      · rw [if_pos q4] at h2 ⊢
        by_cases qa : (F.at_ cn).2.1 ≥ c.c12
        · rw [if_pos qa] at h2; exact absurd h2.2 (by show ¬ (0 : Int) = 5; decide)
        rw [if_neg qa, if_neg (by show ¬ (2 : Int) = 0; decide)]
        have hw : wrap64 ((F.at_ cn).2.1 + 1) = (F.at_ cn).2.1 + 1 := by unfold wrap64; omega
        refine .inr (.inr (.inr (.inl ⟨q4.1, fun W hW => ⟨?_, hr0, fun e => absurd (show (2 : Int) = 1 from e) (by decide), fun _ => ⟨?_, ?_, ?_⟩, fun e => absurd (show (2 : Int) = 3 from e) (by decide)⟩⟩)))
        · show 0 ≤ wrap64 ((F.at_ cn).2.1 + 1) ∧ wrap64 ((F.at_ cn).2.1 + 1) ≤ 31
          rw [hw]; omega
        · show r + 1 ≤ wrap64 ((F.at_ cn).2.1 + 1)
          rw [hw]
          rcases q4.2 with e | e
          · have := (h.one e).2.2; omega
          · have := (h.three e).1; omega
        · show wrap64 ((F.at_ cn).2.1 + 1) ≤ c.c12
          rw [hw]; omega
        · show mn (wrap64 (t + mn W c.c10)) 1073741823 ≤ dueI c t (F.at_ cn).2.1 draw
          rw [hW]
          have hbw := wt_bd c.c9 c.c10 (F.at_ cn).2.1
          exact due_ge t _ _ ht ⟨hbw.1, by have := (PureLk.cl_bd c.c10).2; omega⟩
      · rw [if_neg q4] at h2; exact absurd h2.1 (by simp)
    · rw [if_neg h2] at h0; exact absurd h0 (by simp)
  · rw [if_neg k3] at h0; exact absurd h0 (by simp)
end Go.Proofs.Ythljanmfanppdaa.Bk
