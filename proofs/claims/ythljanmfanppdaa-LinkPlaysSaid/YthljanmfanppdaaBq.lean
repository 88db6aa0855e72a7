/- What is proved: a book of connections as a plain state: New, State, Clock and Do, at every event; numbers fit into 64 bits. -/
import Derived.Test.YthljanmfanppdaaBm
import Derived.Test.YthljanmfanppdaaBn
import Derived.Test.YthljanmfanppdaaBo
import Derived.Test.YthljanmfanppdaaKLkx1
import Derived.Test.YthljanmfanppdaaKLkx2
import Derived.Test.YthljanmfanppdaaPureLk
namespace Go.Proofs.Ythljanmfanppdaa.Bk
open Go.RowKit Go.Maps Go.Proofs.YthljanmfanppdaaW.PrintWords Go.Proofs.YthljanmfanppdaaW.PrintLast Go.Proofs.YthljanmfanppdaaW.PrintMore Go.Proofs.Ythljanmfanppdaa.Mp Go.Proofs.Ythljanmfanppdaa.KLk
open Go.Proofs.Ythljanmfanppdaa.Kw (cfBad cfLeast cfMost)
set_option linter.unusedVariables false
set_option linter.unusedSimpArgs false
/-- What an event has, by its kind and operation. -/
def ownB (op : Int) : Bool := decide (1 ≤ op) && decide (op ≤ 5)
def lkOk (k op : Int) : Bool := (k == 1 && op == 0) || ((k == 2 || k == 5) && (ownB op || op == 6)) || (k == 3 && ownB op) || (k == 4 && (op == 7 || op == 8))
def lkW (k : Int) : Bool := k == 2 || k == 3 || k == 4 || k == 5
def lkC (k op : Int) : Bool := (k == 2 && ownB op) || k == 3 || k == 4
def lkT (k er : Int) : Bool := k == 1 || (k == 3 && !(er == 1 || er == 3 || er == 6)) || k == 4
def lkD (k op : Int) : Bool := k == 2 && op == 4
def lkE (k op : Int) : Bool := k == 3 || (k == 5 && ownB op)
/-- Is an event right? -/
def lrB (k wk op cn t dr er : Int) : Bool :=
  lkOk k op && (!decide (wk < 0) && (!decide (t < 0) && (!decide (er < 0) && (!(k == 4 && decide (cn < 0)) && ((lkW k || wk == 0) && ((lkC k op || cn == 0) && ((lkT k er || t == 0) && ((lkD k op || dr == 0) && (lkE k op || er == 0)))))))))
theorem shape_is (n : Nat) (k wk op cn t dr er : Int) : link_shapeOf.f (n + 1) k wk op cn t dr er = some (lkW k, lkC k op, lkT k er, lkD k op, lkE k op, lkOk k op) := by
  have h : link_shapeOf.f (n + 1) k wk op cn t dr er = link_shapeOf.j0 (n + 1) (ownB op) k wk op cn t dr er := by
    unfold link_shapeOf.f ownB
    by_cases h : op ≥ 1
    · rw [if_pos h, decide_eq_true (show 1 ≤ op from h)]; rfl
    · rw [if_neg h, decide_eq_false (show ¬ 1 ≤ op from h)]; rfl
  rw [h]
  simp only [link_shapeOf.j0]
  generalize ho : ownB op = o
  by_cases k1 : k = 1
  · subst k1; simp [lkW, lkC, lkT, lkD, lkE, lkOk]
  by_cases k2 : k = 2
  · subst k2; cases o <;> simp [lkW, lkC, lkT, lkD, lkE, lkOk, ho]
  by_cases k3 : k = 3
  · subst k3
    by_cases e1 : er = 1
    · simp [lkW, lkC, lkT, lkD, lkE, lkOk, ho, e1]
    by_cases e3 : er = 3
    · simp [lkW, lkC, lkT, lkD, lkE, lkOk, ho, e3]
    · simp [lkW, lkC, lkT, lkD, lkE, lkOk, ho, e1, e3]
  by_cases k4 : k = 4
  · subst k4
    by_cases o7 : op = 7
    · simp [lkW, lkC, lkT, lkD, lkE, lkOk, o7]
    · simp [lkW, lkC, lkT, lkD, lkE, lkOk, o7]
  by_cases k5 : k = 5
  · subst k5; cases o <;> simp [lkW, lkC, lkT, lkD, lkE, lkOk, ho]
  simp [lkW, lkC, lkT, lkD, lkE, lkOk, k1, k2, k3, k4, k5]
theorem nought_is (b : Bool) (n : Int) : link_nought.f b n = some (b || n == 0) := by
  unfold link_nought.f
  cases b <;> simp
theorem right_is (n : Nat) (k wk op cn t dr er : Int) : link_Right.f (n + 1) k wk op cn t dr er = some (lrB k wk op cn t dr er) := by
  unfold link_Right.f lrB
  rw [shape_is]
  simp only [Option.bind_some]
  generalize lkOk k op = b0
  generalize lkW k = b1
  generalize lkC k op = b2
  generalize lkT k er = b3
  generalize lkD k op = b4
  generalize lkE k op = b5
  have j : ∀ x : Bool, link_Right.j0 (n + 1) x k wk op cn t dr er b1 b2 b3 b4 b5 = some (!x && ((b1 || wk == 0) && ((b2 || cn == 0) && ((b3 || t == 0) && ((b4 || dr == 0) && (b5 || er == 0)))))) := fun x => by
    simp only [link_Right.j0, nought_is, Option.bind_some]
    cases x
    · generalize (b1 || wk == 0) = q1
      generalize (b2 || cn == 0) = q2
      generalize (b3 || t == 0) = q3
      generalize (b4 || dr == 0) = q4
      generalize (b5 || er == 0) = q5
      cases q1 <;> cases q2 <;> cases q3 <;> cases q4 <;> simp
    · simp
  simp only [j]
  cases b0
  · simp
  · by_cases h1 : wk < 0
    · simp [h1]
    by_cases h2 : t < 0
    · simp [h1, h2]
    by_cases h3 : er < 0
    · simp [h1, h2, h3]
    by_cases h4 : k = 4
    · simp [h1, h2, h3, h4]
    · simp [h1, h2, h3, h4]
theorem right_calls (k wk op cn t dr er : Int) (W : World) : Calls Try.prog 63 #[.agg (evA k wk op cn t dr er)] W fun e w' => e = .returned (.bool (lrB k wk op cn t dr er)) ∧ Below W.heap.size W w' :=
  link_Right.calls 1 k wk op cn t dr er _ W (right_is 0 k wk op cn t dr er)
/-- When what failed is due, and when what is open is idle. -/
def dueI (c : Cf) (now att draw : Int) : Int := PureLk.due c.c9 c.c10 c.c11 now att draw
def idleI (c : Cf) (last : Int) : Int := PureLk.idle c.c8 last
theorem due_calls (c : Cf) (now att draw : Int) (W : World) : Calls Try.prog 29 #[.agg c.cells, .int .i64 now, .int .i64 att, .int .i64 draw] W fun e w' => e = .returned (.int .i64 (dueI c now att draw)) ∧ Below W.heap.size W w' :=
  KBack.backoff_Due.calls 40 _ _ _ _ _ _ _ _ _ _ _ _ _ now att draw _ W (PureLk.due_is _ _ _ _ _ _ _ _ _ _ _ _ _ now att draw 40 (Nat.le_refl _))
theorem idle_calls (c : Cf) (last : Int) (W : World) : Calls Try.prog 31 #[.agg c.cells, .int .i64 last] W fun e w' => e = .returned (.int .i64 (idleI c last)) ∧ Below W.heap.size W w' :=
  KBack.backoff_Idle.calls 40 _ _ _ _ _ _ _ _ _ _ _ _ _ last _ W (PureLk.idle_is _ _ _ _ _ _ _ _ _ _ _ _ _ last 40 (Nat.le_refl _))
/-- The state behind an operation, its answer, and whether it can be. -/
def afterF (c : Cf) (F : SM) (op cn t draw : Int) : St × Int × Bool :=
  if op = 1 ∧ (F.at_ cn).1 = 0 ∧ cn ≥ 0 ∧ cn < c.c7 then ((1, 0, t), 0, true)
  else if op = 2 ∧ (F.at_ cn).1 = 1 then ((1, (F.at_ cn).2.1, if t ≤ (F.at_ cn).2.2 then (F.at_ cn).2.2 else t), 0, true)
  else if op = 3 ∧ ¬ (F.at_ cn).1 = 0 then ((0, 0, 0), 0, true)
  else if op = 5 ∧ (F.at_ cn).1 = 3 then ((1, 0, t), 0, true)
  else if op = 4 ∧ ((F.at_ cn).1 = 1 ∨ (F.at_ cn).1 = 3) then
    if (F.at_ cn).2.1 ≥ c.c12 then ((0, 0, 0), 5, true) else ((2, wrap64 ((F.at_ cn).2.1 + 1), dueI c t (F.at_ cn).2.1 draw), 0, true)
  else (F.at_ cn, 0, false)
theorem after_any {g m s : Nat} {c : Cf} {clock : Int} {F : SM} (k wk op cn t dr er draw : Int) (hx : (Lit.int .i64 cn).wf = true) (w : World) (hB : BookIs w g m s c clock F) :
    Calls Try.prog 65 #[.pointer (some ⟨g, 0, none⟩), .agg (evA k wk op cn t dr er), .int .i64 draw] w (AfterPost (afterF c F op cn t draw).1 (afterF c F op cn t draw).2.1 (afterF c F op cn t draw).2.2 w) := by
  unfold afterF
  by_cases o1 : op = 1
  · subst o1
    by_cases ha : (F.at_ cn).1 = 0
    · by_cases hin : cn ≥ 0 ∧ cn < c.c7
      · rw [if_pos ⟨rfl, ha, hin⟩]
        exact after_open k wk 1 cn t dr er draw hx rfl ha hin w hB
      · rw [if_neg (fun q => hin q.2.2), if_neg (by omega), if_neg (by omega), if_neg (by omega), if_neg (by omega)]
        exact after_none1b k wk 1 cn t dr er draw hx rfl ha hin w hB
    · rw [if_neg (fun q => ha q.2.1), if_neg (by omega), if_neg (by omega), if_neg (by omega), if_neg (by omega)]
      exact after_none1 k wk 1 cn t dr er draw hx rfl ha w hB
  rw [if_neg (fun q => o1 q.1)]
  by_cases o2 : op = 2
  · subst o2
    by_cases ha : (F.at_ cn).1 = 1
    · rw [if_pos ⟨rfl, ha⟩]
      by_cases hd : t ≤ (F.at_ cn).2.2
      · rw [if_pos hd]
        exact after_touch_b k wk 2 cn t dr er draw hx rfl ha hd w hB
      · rw [if_neg hd]
        exact after_touch_a k wk 2 cn t dr er draw hx rfl ha hd w hB
    · rw [if_neg (fun q => ha q.2), if_neg (by omega), if_neg (by omega), if_neg (by omega)]
      exact after_none2 k wk 2 cn t dr er draw hx rfl ha w hB
  rw [if_neg (fun q => o2 q.1)]
  by_cases o3 : op = 3
  · subst o3
    by_cases ha : (F.at_ cn).1 = 0
    · rw [if_neg (fun q => q.2 ha), if_neg (by omega), if_neg (by omega)]
      exact after_none3 k wk 3 cn t dr er draw hx rfl ha w hB
    · rw [if_pos ⟨rfl, ha⟩]
      exact after_close k wk 3 cn t dr er draw hx rfl ha w hB
  rw [if_neg (fun q => o3 q.1)]
  by_cases o5 : op = 5
  · subst o5
    by_cases ha : (F.at_ cn).1 = 3
    · rw [if_pos ⟨rfl, ha⟩]
      exact after_success k wk 5 cn t dr er draw hx rfl ha w hB
    · rw [if_neg (fun q => ha q.2), if_neg (by omega)]
      exact after_none5 k wk 5 cn t dr er draw hx rfl ha w hB
  rw [if_neg (fun q => o5 q.1)]
  by_cases o4 : op = 4
  · subst o4
    by_cases ha : (F.at_ cn).1 = 1 ∨ (F.at_ cn).1 = 3
    · rw [if_pos ⟨rfl, ha⟩]
      by_cases hb : (F.at_ cn).2.1 ≥ c.c12
      · rw [if_pos hb]
        rcases ha with ha | ha
        · exact after_fail1 k wk 4 cn t dr er draw hx rfl ha hb w hB
        · exact after_fail3 k wk 4 cn t dr er draw hx rfl ha hb w hB
      · rw [if_neg hb, ← IntWalk.i64_left]
        rcases ha with ha | ha
        · exact after_wait1 k wk 4 cn t dr er draw hx _ rfl ha hb (fun W => due_calls c t _ draw W) w hB
        · exact after_wait3 k wk 4 cn t dr er draw hx _ rfl ha hb (fun W => due_calls c t _ draw W) w hB
    · rw [if_neg (fun q => ha q.2)]
      exact after_none4 k wk 4 cn t dr er draw hx rfl ⟨fun q => ha (.inl q), fun q => ha (.inr q)⟩ w hB
  rw [if_neg (fun q => o4 q.1)]
  exact after_none k wk op cn t dr er draw hx ⟨o1, o2, o3, o4, o5⟩ w hB
theorem act_any {g m s : Nat} {c : Cf} {clock : Int} {F : SM} (k wk op cn t dr er : Int) (hx : (Lit.int .i64 cn).wf = true) (hs : s < 1000000) (w : World) (hB : BookIs w g m s c clock F) :
    Calls Try.prog 64 #[.pointer (some ⟨g, 0, none⟩), .agg (evA k wk op cn t dr er)] w (SetPost g m s c clock (actF F clock (idleI c (F.at_ cn).2.2) op cn t).2 w (actF F clock (idleI c (F.at_ cn).2.2) op cn t).1) := by
  unfold actF
  by_cases ht : t > clock
  · rw [if_pos ht]
    exact act_late k wk op cn t dr er hx ht w hB
  rw [if_neg ht]
  by_cases o7 : op = 7
  · subst o7
    by_cases ha : (F.at_ cn).1 = 1
    · by_cases hi : idleI c (F.at_ cn).2.2 ≤ t
      · rw [if_pos ⟨rfl, ha, hi⟩]
        exact act_idle k wk 7 cn t dr er hx hs _ ht rfl ha hi (fun W => idle_calls c _ W) w hB
      · rw [if_neg (fun q => hi q.2.2), if_neg (by omega)]
        exact act_busy k wk 7 cn t dr er hx hs _ ht rfl ha hi (fun W => idle_calls c _ W) w hB
    · rw [if_neg (fun q => ha q.2.1), if_neg (by omega)]
      exact act_seven k wk 7 cn t dr er hx ht rfl ha w hB
  rw [if_neg (fun q => o7 q.1)]
  by_cases h8 : op = 8 ∧ (F.at_ cn).1 = 2 ∧ (F.at_ cn).2.2 ≤ t
  · rw [if_pos h8]
    exact act_eight k wk op cn t dr er hx hs ht h8.1 h8.2.1 h8.2.2 w hB
  · rw [if_neg h8]
    exact act_none k wk op cn t dr er hx ht o7 h8 w hB
/-- What an event does with a book: the answer, the clock, the states. -/
def doF (c : Cf) (clock : Int) (F : SM) (k wk op cn t dr er draw : Int) : Int × Int × SM :=
  if lrB k wk op cn t dr er = false then (8, clock, F)
  else if k = 1 then (if t = wrap64 (clock + 1) then (0, t, F) else (6, clock, F))
  else if k = 4 then ((actF F clock (idleI c (F.at_ cn).2.2) op cn t).1, clock, (actF F clock (idleI c (F.at_ cn).2.2) op cn t).2)
  else if k = 3 then
    if er = 1 ∨ er = 3 ∨ er = 6 ∧ (afterF c F op cn t draw).2.2 = false then (0, clock, F)
    else if (afterF c F op cn t draw).2.2 = true ∧ er = (afterF c F op cn t draw).2.1 then (0, clock, F.put cn (afterF c F op cn t draw).1)
    else (6, clock, F)
  else (8, clock, F)
theorem do_any {g m s : Nat} {c : Cf} {clock : Int} {F : SM} (k wk op cn t dr er draw : Int) (hx : (Lit.int .i64 cn).wf = true) (hs : s < 1000000) (w : World) (hB : BookIs w g m s c clock F) :
    Calls Try.prog 38 #[.pointer (some ⟨g, 0, none⟩), .agg (evA k wk op cn t dr er), .int .i64 draw] w (DoPost g m s c (doF c clock F k wk op cn t dr er draw) w) := by
  have CR := Aside0.mk (fun W => right_calls k wk op cn t dr er W)
  unfold doF
  cases hr : lrB k wk op cn t dr er with
  | false =>
    rw [if_pos rfl]
    exact do_wrong k wk op cn t dr er draw _ hr w hB CR
  | true =>
    rw [if_neg (by decide)]
    by_cases k1 : k = 1
    · rw [if_pos k1]
      by_cases ht : t = wrap64 (clock + 1)
      · rw [if_pos ht]
        exact do_tick k wk op cn t dr er draw _ hr k1 ht w hB CR
      · rw [if_neg ht]
        exact do_tick_no k wk op cn t dr er draw _ hr k1 ht w hB CR
    rw [if_neg k1]
    by_cases k4 : k = 4
    · rw [if_pos k4]
      exact do_act k wk op cn t dr er draw _ hr k4 _ _ (fun W h => act_any k wk op cn t dr er hx hs W h) w hB CR
    rw [if_neg k4]
    by_cases k3 : k = 3
    · rw [if_pos k3]
      have ca : ∀ W, BookIs W g m s c clock F → Calls Try.prog 65 #[.pointer (some ⟨g, 0, none⟩), .agg (evA k wk op cn t dr er), .int .i64 draw] W fun e w' => e = .returned (.tuple #[stV (afterF c F op cn t draw).1, .int .i64 (afterF c F op cn t draw).2.1, .bool (afterF c F op cn t draw).2.2]) ∧ Below W.heap.size W w' := fun W h => after_any k wk op cn t dr er draw hx W h
      generalize afterF c F op cn t draw = q at ca ⊢
      obtain ⟨⟨a, b, d⟩, code, can⟩ := q
      simp only at ca ⊢
      by_cases e1 : er = 1
      · rw [if_pos (.inl e1)]
        exact do_point_still1 k wk op cn t dr er draw _ hr k3 a b d code can ca e1 w hB CR
      by_cases e3 : er = 3
      · rw [if_pos (.inr (.inl e3))]
        exact do_point_still3 k wk op cn t dr er draw _ hr k3 a b d code can ca e3 w hB CR
      by_cases e6 : er = 6
      · cases can with
        | false =>
          rw [if_pos (.inr (.inr ⟨e6, rfl⟩))]
          exact do_point_still6 k wk op cn t dr er draw _ hr k3 a b d code false ca e6 rfl w hB CR
        | true =>
          rw [if_neg (by rintro (q | q | q); exact e1 q; exact e3 q; cases q.2)]
          by_cases hc : er = code
          · rw [if_pos ⟨rfl, hc⟩]
            exact do_point_yes6 k wk op cn t dr er draw _ hs hx hr k3 a b d code true ca e6 rfl ⟨rfl, hc⟩ w hB CR
          · rw [if_neg (fun q => hc q.2)]
            exact do_point_no6 k wk op cn t dr er draw _ hr k3 a b d code true ca e6 rfl hc w hB CR
      rw [if_neg (by rintro (q | q | q); exact e1 q; exact e3 q; exact e6 q.1)]
      cases can with
      | false =>
        rw [if_neg (by rintro ⟨q, _⟩; cases q)]
        exact do_point_nof k wk op cn t dr er draw _ hr k3 a b d code false ca ⟨e1, e3, e6⟩ rfl w hB CR
      | true =>
        by_cases hc : er = code
        · rw [if_pos ⟨rfl, hc⟩]
          exact do_point_yes k wk op cn t dr er draw _ hs hx hr k3 a b d code true ca ⟨e1, e3, e6⟩ ⟨rfl, hc⟩ w hB CR
        · rw [if_neg (fun q => hc q.2)]
          exact do_point_no k wk op cn t dr er draw _ hr k3 a b d code true ca ⟨e1, e3, e6⟩ rfl hc w hB CR
    · rw [if_neg k3]
      exact do_other k wk op cn t dr er draw _ hr k1 k3 k4 w hB CR
/-- Is a configuration right? (0, or the error's number.) -/
def cfCode (c : Cf) : Int := (cfBad [c.c0, c.c1, c.c2, c.c3, c.c4, c.c5, c.c6, c.c7, c.c8, c.c9, c.c10, c.c11, c.c12] 13 0).2
theorem new_is (c : Cf) (w : World) : Calls Try.prog 36 #[.agg c.cells] w (NewPost c (cfCode c) w) :=
  new_any c _ _ ⟨fun W => Kw.plan_Check.go [c.c0, c.c1, c.c2, c.c3, c.c4, c.c5, c.c6, c.c7, c.c8, c.c9, c.c10, c.c11, c.c12] rfl W⟩ w
end Go.Proofs.Ythljanmfanppdaa.Bk
