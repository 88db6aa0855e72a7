/- What is proved: a model of timers and a bench of workers, event by event; plain Lean, no program in sight. -/
import Derived.Test.YthniclbmpeklmaaAuP
import Derived.Test.YthniclbmpeklmaaEvD
namespace Go.Proofs.Ythniclbmpeklmaa.Ju
open Go.RowKit Go.Proofs.Ythniclbmpeklmaa.Au
set_option linter.unusedVariables false
/-- Is an event right? -/
def rightJ (e : Ev) : Bool := Ev.evRight e.k e.wk e.op e.hn e.hg e.nn e.ng e.t e.a e.u e.y e.er
/-- The model: the time, what became of handles (a status, a deadline), of each node the generation that was made last. -/
structure Md where
  clk : Int
  fat : Ha → Option (Int × Int)
  lst : Int → Option Int
def md0 : Md := ⟨0, fun _ => none, fun _ => none⟩
def Md.st (m : Md) (h : Ha) : Int := ((m.fat h).getD (0, 0)).1
def Md.dl (m : Md) (h : Ha) : Int := ((m.fat h).getD (0, 0)).2
def updF (f : Ha → Option (Int × Int)) (x : Ha) (v : Int × Int) : Ha → Option (Int × Int) := fun l => if l = x then some v else f l
def updL (f : Int → Option Int) (x : Int) (v : Int) : Int → Option Int := fun l => if l = x then some v else f l
def Md.end_ (m : Md) (h : Ha) (s : Int) : Md := { m with fat := updF m.fat h (s, 0) }
def Md.arm (m : Md) (h : Ha) (d : Int) : Md := { m with fat := updF m.fat h (1, d), lst := updL m.lst h.1 h.2 }
/-- May a handle be made by a Start? -/
def Md.startOk (m : Md) (h : Ha) : Bool := !(m.lst h.1).isSome || (m.st (h.1, (m.lst h.1).getD 0) != 1 && decide ((m.lst h.1).getD 0 < h.2))
/-- An operation takes effect. -/
def pointF (m : Md) (e : Ev) : Md × Int :=
  if e.op = 2 ∧ e.y = true then (if m.st e.h = 1 then (m.end_ e.h 3, 0) else (m, 6))
  else if e.op = 2 ∨ (e.er = 4 ∧ e.op ≠ 1) then (if m.st e.h = 1 then (m, 6) else (m, 0))
  else if e.er ≠ 0 then (m, 0)
  else if e.op = 1 then (if m.startOk e.new = true then (m.arm e.new e.t, 0) else (m, 6))
  else if e.op = 4 then (if m.st e.h = 1 then (m, 0) else (m, 6))
  else if m.st e.h = 1 ∧ e.nn = e.hn ∧ e.ng = wrap64 (e.hg + 1) then ((m.end_ e.h 4).arm e.new e.t, 0) else (m, 6)
/-- An event comes about, if it can. -/
def doF (m : Md) (e : Ev) : Md × Int :=
  if rightJ e = false then (m, 8)
  else if e.k = 1 then (if e.t = wrap64 (m.clk + 1) then ({ m with clk := e.t }, 0) else (m, 6))
  else if e.k = 4 then (if m.st e.h = 1 ∧ m.dl e.h ≤ e.t ∧ e.t ≤ m.clk then (m.end_ e.h 2, 0) else (m, 6))
  else if e.k = 3 then pointF m e
  else (m, 8)
/-- What a worker is in: of its Invoke the operation, handle and time; the clock then; what its Point told. -/
structure Wk where
  op : Int
  hn : Int
  hg : Int
  t : Int
  beg : Int
  pt : Option (Int × Int × Bool × Int)
structure Be where
  nw : Int
  m : Md
  wks : Int → Option Wk
def be0 (n : Int) : Be := ⟨n, md0, fun _ => none⟩
def updW (f : Int → Option Wk) (x : Int) (v : Option Wk) : Int → Option Wk := fun l => if l = x then v else f l
def withinB (d t f g : Int) : Bool := decide (t ≤ wrap64 (d - f)) && decide (wrap64 (d - g) ≤ t)
def answersB (w : Wk) (e : Ev) : Bool := match w.pt with
  | none => false
  | some (a, b, y, r) => a == e.nn && b == e.ng && y == e.y && r == e.er
/-- May an operation take effect so? -/
def pointOk (b : Be) (w : Wk) (e : Ev) : Bool :=
  !(w.pt.isSome || (e.op != 1 && !(e.hn == w.hn && e.hg == w.hg))) && !((e.er == 0 && (e.op == 1 || e.op == 3)) && !withinB e.t w.t w.beg b.m.clk)
def ptOf (e : Ev) : Int × Int × Bool × Int := (e.nn, e.ng, e.y, e.er)
def pointB (b : Be) (w : Wk) (e : Ev) : Be × Int :=
  if pointOk b w e = true then
    if (doF b.m e).2 = 0 then ({ b with m := (doF b.m e).1, wks := updW b.wks e.wk (some { w with pt := some (ptOf e) }) }, 0)
    else ({ b with m := (doF b.m e).1 }, (doF b.m e).2)
  else (b, 6)
/-- The next event is heard, if it can be. -/
def hearF (b : Be) (e : Ev) : Be × Int :=
  if rightJ e = false ∨ b.nw ≤ e.wk then (b, 8)
  else if e.k = 1 then ({ b with m := (doF b.m e).1 }, (doF b.m e).2)
  else match b.wks e.wk with
  | none => if e.k = 2 then ({ b with wks := updW b.wks e.wk (some ⟨e.op, e.hn, e.hg, e.t, b.m.clk, none⟩) }, 0) else (b, 6)
  | some w =>
    if e.k = 2 then (b, 6)
    else if e.k = 4 then (if w.op ≠ 5 ∨ e.t < w.beg then (b, 6) else ({ b with m := (doF b.m e).1 }, (doF b.m e).2))
    else if w.op ≠ e.op then (b, 6)
    else if e.k = 3 then pointB b w e
    else if e.op ≤ 4 ∧ answersB w e = false then (b, 6)
    else ({ b with wks := updW b.wks e.wk none }, 0)
/-- The first event that can't be, from a bench on. -/
def goF (b : Be) : List Ev → Option (Nat × Int)
  | [] => none
  | e :: l => if (hearF b e).2 = 0 then (goF (hearF b e).1 l).map (fun p => (p.1 + 1, p.2)) else some (0, (hearF b e).2)
def outF : Option (Nat × Int) → Int × Int
  | none => (-1, 0)
  | some (i, k) => ((i : Int), k)
def judgeF (l : List Ev) (n : Int) : Int × Int := if n < 1 ∨ 64 < n then (-1, 1) else outF (goF (be0 n) l)
/-- The bench behind some events (whatever they are). -/
def benchF (b : Be) : List Ev → Be
  | [] => b
  | e :: l => benchF (hearF b e).1 l
theorem benchF_snoc (b : Be) (l : List Ev) (e : Ev) : benchF b (l ++ [e]) = (hearF (benchF b l) e).1 := by
  induction l generalizing b with
  | nil => rfl
  | cons x l ih => exact ih _
theorem hear_nw (b : Be) (e : Ev) : (hearF b e).1.nw = b.nw := by
  unfold hearF pointB
  split
  · rfl
  · split
    · rfl
    · split
      · split <;> rfl
      · split
        · rfl
        · split
          · split <;> rfl
          · split
            · rfl
            · split
              · split
                · split <;> rfl
                · rfl
              · split <;> rfl
theorem goF_some {b : Be} {l : List Ev} {i : Nat} {k : Int} (h : goF b l = some (i, k)) : i < l.length ∧ k ≠ 0 ∧ (∀ n, n ≤ i → goF b (l.take n) = none) ∧ goF b (l.take (i + 1)) = some (i, k) := by
  induction l generalizing b i with
  | nil => cases h
  | cons e l ih =>
    unfold goF at h
    by_cases hk : (hearF b e).2 = 0
    · rw [if_pos hk] at h
      cases hg : goF (hearF b e).1 l with
      | none => rw [hg] at h; cases h
      | some p =>
        obtain ⟨j, q⟩ := p
        rw [hg] at h
        simp only [Option.map_some, Option.some.injEq, Prod.mk.injEq] at h
        obtain ⟨rfl, rfl⟩ := h
        obtain ⟨h1, h2, h3, h4⟩ := ih hg
        refine ⟨by simpa using h1, h2, fun n hn => ?_, ?_⟩
        · cases n with
          | zero => rfl
          | succ n =>
            rw [List.take_succ_cons, goF, if_pos hk, h3 n (by omega)]
            rfl
        · rw [List.take_succ_cons, goF, if_pos hk, h4]
          rfl
    · rw [if_neg hk] at h
      simp only [Option.some.injEq, Prod.mk.injEq] at h
      obtain ⟨rfl, rfl⟩ := h
      refine ⟨by simp, hk, fun n hn => ?_, ?_⟩
      · obtain rfl : n = 0 := by omega
        rfl
      · rw [List.take_succ_cons, goF, if_neg hk]
theorem goF_none {b : Be} {l : List Ev} (h : goF b l = none) (n : Nat) : goF b (l.take n) = none := by
  induction l generalizing b n with
  | nil => rw [List.take_nil]; exact h
  | cons e l ih =>
    cases n with
    | zero => rfl
    | succ n =>
      unfold goF at h
      by_cases hk : (hearF b e).2 = 0
      · rw [if_pos hk] at h
        rw [List.take_succ_cons, goF, if_pos hk, ih (Option.map_eq_none_iff.1 h) n]
        rfl
      · rw [if_neg hk] at h; cases h
/-- Step by step. -/
theorem goF_snoc (b : Be) (l : List Ev) (e : Ev) (h : goF b l = none) : goF b (l ++ [e]) = if (hearF (benchF b l) e).2 = 0 then none else some (l.length, (hearF (benchF b l) e).2) := by
  induction l generalizing b with
  | nil =>
    show goF b [e] = _
    unfold goF benchF
    split <;> rfl
  | cons x l ih =>
    unfold goF at h
    by_cases hk : (hearF b x).2 = 0
    · rw [if_pos hk] at h
      rw [List.cons_append, goF, if_pos hk, ih _ (Option.map_eq_none_iff.1 h), benchF]
      split <;> rfl
    · rw [if_neg hk] at h; cases h
theorem goF_app {b : Be} {l l' : List Ev} {p : Nat × Int} (h : goF b l = some p) : goF b (l ++ l') = some p := by
  induction l generalizing b p with
  | nil => cases h
  | cons x l ih =>
    unfold goF at h
    rw [List.cons_append, goF]
    by_cases hk : (hearF b x).2 = 0
    · rw [if_pos hk] at h
      rw [if_pos hk]
      cases hg : goF (hearF b x).1 l with
      | none => rw [hg] at h; cases h
      | some q => rw [hg] at h; rw [ih hg]; exact h
    · rw [if_neg hk] at h
      rw [if_neg hk]
      exact h
/-- Two workers' numbers changed for one another. -/
def sw (x y n : Int) : Int := if n = x then y else if n = y then x else n
def swE (x y : Int) (e : Ev) : Ev := if e.k = 1 then e else { e with wk := sw x y e.wk }
theorem sw_sw (x y n : Int) : sw x y (sw x y n) = n := by unfold sw; repeat' split <;> omega
theorem sw_inj {x y a b : Int} (h : sw x y a = sw x y b) : a = b := by have := congrArg (sw x y) h; rwa [sw_sw, sw_sw] at this
theorem sw_nn {x y n : Int} (hx : 0 ≤ x) (hy : 0 ≤ y) : 0 ≤ sw x y n ↔ 0 ≤ n := by unfold sw; split <;> (try split) <;> omega
theorem sw_le {x y n w : Int} (hx : x < w) (hy : y < w) : w ≤ sw x y n ↔ w ≤ n := by unfold sw; split <;> (try split) <;> omega
theorem right_sw {x y : Int} (hx : 0 ≤ x) (hy : 0 ≤ y) (e : Ev) : rightJ (swE x y e) = rightJ e := by
  unfold swE
  split
  · rfl
  · rename_i hk
    unfold rightJ Ev.evRight
    have h1 : Ev.kindB e.k (sw x y e.wk) e.op = Ev.kindB e.k e.wk e.op := by
      unfold Ev.kindB
      rw [beq_eq_false_iff_ne.2 hk]
      rfl
    have h2 : decide (0 ≤ sw x y e.wk) = decide (0 ≤ e.wk) := by rw [decide_eq_decide]; exact sw_nn hx hy
    simp only
    rw [h1, h2]
theorem do_sw {x y : Int} (hx : 0 ≤ x) (hy : 0 ≤ y) (m : Md) (e : Ev) : doF m (swE x y e) = doF m e := by
  unfold doF
  rw [right_sw hx hy]
  by_cases hk : e.k = 1
  · rw [show swE x y e = e from if_pos hk]
  · rw [show swE x y e = { e with wk := sw x y e.wk } from if_neg hk]
    rfl
/-- The same bench, but for two numbers. -/
def SwB (x y : Int) (b b' : Be) : Prop := b'.nw = b.nw ∧ b'.m = b.m ∧ ∀ w, b'.wks (sw x y w) = b.wks w
theorem upd_sw {x y : Int} {f f' : Int → Option Wk} (h : ∀ w, f' (sw x y w) = f w) (z : Int) (v : Option Wk) : ∀ w, updW f' (sw x y z) v (sw x y w) = updW f z v w := by
  intro w
  unfold updW
  by_cases e : w = z
  · rw [if_pos e, if_pos (by rw [e])]
  · rw [if_neg e, if_neg (fun q => e (sw_inj q)), h]
theorem hear_sw {x y : Int} {b b' : Be} (hx : 0 ≤ x) (hy : 0 ≤ y) (hxn : x < b.nw) (hyn : y < b.nw) (h : SwB x y b b') (e : Ev) : (hearF b' (swE x y e)).2 = (hearF b e).2 ∧ SwB x y (hearF b e).1 (hearF b' (swE x y e)).1 := by
  obtain ⟨h1, h2, h3⟩ := h
  unfold hearF
  rw [right_sw hx hy, do_sw hx hy, h1, h2]
  by_cases k1 : e.k = 1
  · have hs : swE x y e = e := if_pos k1
    rw [hs]
    split
    · exact ⟨rfl, h1, h2, h3⟩
    · exact ⟨rfl, rfl, rfl, h3⟩
  · have hs : swE x y e = { e with wk := sw x y e.wk } := if_neg k1
    have hc : (rightJ e = false ∨ b.nw ≤ (swE x y e).wk) ↔ (rightJ e = false ∨ b.nw ≤ e.wk) := by
      rw [hs]
      exact or_congr Iff.rfl (sw_le hxn hyn)
    by_cases hg : rightJ e = false ∨ b.nw ≤ e.wk
    · rw [if_pos hg, if_pos (hc.2 hg)]
      exact ⟨rfl, h1, h2, h3⟩
    · rw [if_neg hg, if_neg (fun q => hg (hc.1 q)), if_neg k1, if_neg (by rw [hs]; exact k1)]
      have hw : b'.wks (swE x y e).wk = b.wks e.wk := by rw [hs]; exact h3 e.wk
      rw [hw]
      have hwk : (swE x y e).wk = sw x y e.wk := by rw [hs]
      cases hb : b.wks e.wk with
      | none =>
        simp only
        have hk : (swE x y e).k = e.k := by rw [hs]
        rw [hk]
        split
        · refine ⟨rfl, rfl, rfl, ?_⟩
          rw [hs]
          exact upd_sw h3 _ _
        · exact ⟨rfl, h1, h2, h3⟩
      | some w =>
        simp only
        have hpo : pointOk b' w (swE x y e) = pointOk b w e := by
          unfold pointOk
          rw [hs, h2]
        have hpb : (pointB b' w (swE x y e)).2 = (pointB b w e).2 ∧ SwB x y (pointB b w e).1 (pointB b' w (swE x y e)).1 := by
          unfold pointB
          rw [hpo, h2, do_sw hx hy]
          split
          · split
            · refine ⟨rfl, h1, rfl, ?_⟩
              rw [hs]
              exact upd_sw h3 _ _
            · exact ⟨rfl, h1, rfl, h3⟩
          · exact ⟨rfl, h1, h2, h3⟩
        have ha : answersB w (swE x y e) = answersB w e := by rw [hs]; rfl
        rw [ha]
        have q1 : (swE x y e).k = e.k := by rw [hs]
        have q2 : (swE x y e).t = e.t := by rw [hs]
        have q3 : (swE x y e).op = e.op := by rw [hs]
        rw [q1, q2, q3, hwk]
        split
        · exact ⟨rfl, h1, h2, h3⟩
        · split
          · split
            · exact ⟨rfl, h1, h2, h3⟩
            · exact ⟨rfl, rfl, rfl, h3⟩
          · split
            · exact ⟨rfl, h1, h2, h3⟩
            · split
              · exact hpb
              · split
                · exact ⟨rfl, h1, h2, h3⟩
                · exact ⟨rfl, rfl, rfl, upd_sw h3 _ _⟩
theorem go_sw {x y : Int} (hx : 0 ≤ x) (hy : 0 ≤ y) (l : List Ev) : ∀ {b b' : Be}, x < b.nw → y < b.nw → SwB x y b b' → goF b' (l.map (swE x y)) = goF b l := by
  induction l with
  | nil => intros; rfl
  | cons e l ih =>
    intro b b' hxn hyn h
    obtain ⟨h1, h2⟩ := hear_sw hx hy hxn hyn h e
    rw [List.map_cons, goF, goF, h1, ih (by rw [hear_nw]; exact hxn) (by rw [hear_nw]; exact hyn) h2]
theorem judge_sw {x y n : Int} (hx : 0 ≤ x) (hy : 0 ≤ y) (hxn : x < n) (hyn : y < n) (l : List Ev) : judgeF (l.map (swE x y)) n = judgeF l n := by
  unfold judgeF
  rw [go_sw hx hy l hxn hyn (b := be0 n) (b' := be0 n) ⟨rfl, rfl, fun _ => rfl⟩]
end Go.Proofs.Ythniclbmpeklmaa.Ju
