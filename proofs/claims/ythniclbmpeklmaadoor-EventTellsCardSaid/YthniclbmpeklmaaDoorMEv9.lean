/- What is proved: whether an event is right, as the reference tells it; no conditions. -/

import Derived.Test.YthniclbmpeklmaaDoorMEv8
namespace Go.Proofs.YthniclbmpeklmaaDoor.Ev
open Go.RowKit Go.Proofs.YthniclbmpeklmaaDoorW.PrintWords Go.Proofs.YthniclbmpeklmaaDoorW.PrintLast Go.Proofs.YthniclbmpeklmaaDoorW.PrintMore
set_option linter.unusedVariables false
set_option linter.unusedSimpArgs false
def in3 (x y z n : Int) : Bool := x == n || (y == n || z == n)
def made (op : Int) : Bool := op == 1 || op == 3
def hasN (k op er : Int) : Bool := (k == 3 || k == 5) && made op && er == 0
def hasT (k op er : Int) : Bool := k == 1 || k == 4 || k == 2 && made op || k == 3 && made op && er == 0 || k == 5 && (op == 6 || op == 7)
def hasA (k op : Int) : Bool := k == 2 && (op == 1 || op == 4)
def hasU (k op : Int) : Bool := k == 4 || k == 2 && op == 1
def hasY (k op : Int) : Bool := (k == 3 || k == 5) && op == 2
def hasE (k op : Int) : Bool := (k == 3 || k == 5) && in3 1 3 4 op
def hasH (k op : Int) : Bool := k == 4 || ((k == 2 && in3 2 3 4 op) || (k == 3 && in3 2 3 4 op))
theorem in_3 (n x y z : Int) (b : Nat) (w : World) (h0 : w.cell? ⟨b, 0, none⟩ = some (.int .i64 x)) (h1 : w.cell? ⟨b, 1, none⟩ = some (.int .i64 y)) (h2 : w.cell? ⟨b, 2, none⟩ = some (.int .i64 z)) :
    Calls Tryd.prog 35 #[.int .i64 n, .slice (some ⟨b, 0, none⟩) 3 3] w fun e w' => e = .returned (.bool (in3 x y z n)) ∧ w' = w := in_any n x y z b w h0 h1 h2

set_option maxHeartbeats 4000000 in
set_option maxRecDepth 100000 in
theorem has_h (k wk op hn hg nn ng t a u : Int) (y : Bool) (er : Int) (w : World) :
    Calls Tryd.prog 27 #[.agg (evC k wk op hn hg nn ng t a u y er), .int .u8 104] w fun e w' => e = .returned (.bool (hasH k op)) ∧ Below w.heap.size w w' := by
  have hu := Tryd.underlying25
  have HB := Aside0.mk (Below.refl w.heap.size w)
  go_enter Tryd.func27, Tryd.ntmps27
  go_wp2
  go_quiet (fail)
  go_wp2_with (first | (go_at_call 35; (with_reducible refine (in_3 _ 2 3 4 _ _ ?c0 ?c1 ?c2).mono ?_); (case c0 => go_simp); (case c1 => go_simp); (case c2 => go_simp); rintro e w1 ⟨rfl, rfl⟩))
  all_goals
    go_ret
    exact ⟨by first | (simp [hasH, made, *]; done) | (simp_all [hasH, made, in3]; done) | (simp [hasH, made, *]; rw [Bool.eq_iff_iff]; simp [*]; done), by repeat (first | exact HB.out | apply below_alloc | apply pw_below_drewN)⟩

set_option maxHeartbeats 4000000 in
set_option maxRecDepth 100000 in
theorem has_n (k wk op hn hg nn ng t a u : Int) (y : Bool) (er : Int) (w : World) :
    Calls Tryd.prog 27 #[.agg (evC k wk op hn hg nn ng t a u y er), .int .u8 110] w fun e w' => e = .returned (.bool (hasN k op er)) ∧ Below w.heap.size w w' := by
  have hu := Tryd.underlying25
  have HB := Aside0.mk (Below.refl w.heap.size w)
  go_enter Tryd.func27, Tryd.ntmps27
  go_wp2
  go_quiet (fail)
  go_wp2_with (first | (go_at_call 35; (with_reducible refine (in_3 _ 1 3 4 _ _ ?c0 ?c1 ?c2).mono ?_); (case c0 => go_simp); (case c1 => go_simp); (case c2 => go_simp); rintro e w1 ⟨rfl, rfl⟩))
  all_goals
    go_ret
    exact ⟨by first | (simp [hasN, made, *]; done) | (simp_all [hasN, made, in3]; done) | (simp [hasN, made, *]; rw [Bool.eq_iff_iff]; simp [*]; done), by repeat (first | exact HB.out | apply below_alloc | apply pw_below_drewN)⟩

set_option maxHeartbeats 4000000 in
set_option maxRecDepth 100000 in
theorem has_t (k wk op hn hg nn ng t a u : Int) (y : Bool) (er : Int) (w : World) :
    Calls Tryd.prog 27 #[.agg (evC k wk op hn hg nn ng t a u y er), .int .u8 116] w fun e w' => e = .returned (.bool (hasT k op er)) ∧ Below w.heap.size w w' := by
  have hu := Tryd.underlying25
  have HB := Aside0.mk (Below.refl w.heap.size w)
  go_enter Tryd.func27, Tryd.ntmps27
  go_wp2
  go_quiet (fail)
  go_wp2_with (first | (go_at_call 35; (with_reducible refine (in_3 _ 1 3 4 _ _ ?c0 ?c1 ?c2).mono ?_); (case c0 => go_simp); (case c1 => go_simp); (case c2 => go_simp); rintro e w1 ⟨rfl, rfl⟩))
  all_goals
    go_ret
    exact ⟨by first | (simp [hasT, made, *]; done) | (simp_all [hasT, made, in3]; done) | (simp [hasT, made, *]; rw [Bool.eq_iff_iff]; simp [*]; done), by repeat (first | exact HB.out | apply below_alloc | apply pw_below_drewN)⟩

set_option maxHeartbeats 4000000 in
set_option maxRecDepth 100000 in
theorem has_a (k wk op hn hg nn ng t a u : Int) (y : Bool) (er : Int) (w : World) :
    Calls Tryd.prog 27 #[.agg (evC k wk op hn hg nn ng t a u y er), .int .u8 97] w fun e w' => e = .returned (.bool (hasA k op)) ∧ Below w.heap.size w w' := by
  have hu := Tryd.underlying25
  have HB := Aside0.mk (Below.refl w.heap.size w)
  go_enter Tryd.func27, Tryd.ntmps27
  go_wp2
  go_quiet (fail)
  go_wp2_with (first | (go_at_call 35; (with_reducible refine (in_3 _ 1 3 4 _ _ ?c0 ?c1 ?c2).mono ?_); (case c0 => go_simp); (case c1 => go_simp); (case c2 => go_simp); rintro e w1 ⟨rfl, rfl⟩))
  all_goals
    go_ret
    exact ⟨by first | (simp [hasA, made, *]; done) | (simp_all [hasA, made, in3]; done) | (simp [hasA, made, *]; rw [Bool.eq_iff_iff]; simp [*]; done), by repeat (first | exact HB.out | apply below_alloc | apply pw_below_drewN)⟩

set_option maxHeartbeats 4000000 in
set_option maxRecDepth 100000 in
theorem has_u (k wk op hn hg nn ng t a u : Int) (y : Bool) (er : Int) (w : World) :
    Calls Tryd.prog 27 #[.agg (evC k wk op hn hg nn ng t a u y er), .int .u8 117] w fun e w' => e = .returned (.bool (hasU k op)) ∧ Below w.heap.size w w' := by
  have hu := Tryd.underlying25
  have HB := Aside0.mk (Below.refl w.heap.size w)
  go_enter Tryd.func27, Tryd.ntmps27
  go_wp2
  go_quiet (fail)
  go_wp2_with (first | (go_at_call 35; (with_reducible refine (in_3 _ 1 3 4 _ _ ?c0 ?c1 ?c2).mono ?_); (case c0 => go_simp); (case c1 => go_simp); (case c2 => go_simp); rintro e w1 ⟨rfl, rfl⟩))
  all_goals
    go_ret
    exact ⟨by first | (simp [hasU, made, *]; done) | (simp_all [hasU, made, in3]; done) | (simp [hasU, made, *]; rw [Bool.eq_iff_iff]; simp [*]; done), by repeat (first | exact HB.out | apply below_alloc | apply pw_below_drewN)⟩

set_option maxHeartbeats 4000000 in
set_option maxRecDepth 100000 in
theorem has_y (k wk op hn hg nn ng t a u : Int) (y : Bool) (er : Int) (w : World) :
    Calls Tryd.prog 27 #[.agg (evC k wk op hn hg nn ng t a u y er), .int .u8 121] w fun e w' => e = .returned (.bool (hasY k op)) ∧ Below w.heap.size w w' := by
  have hu := Tryd.underlying25
  have HB := Aside0.mk (Below.refl w.heap.size w)
  go_enter Tryd.func27, Tryd.ntmps27
  go_wp2
  go_quiet (fail)
  go_wp2_with (first | (go_at_call 35; (with_reducible refine (in_3 _ 1 3 4 _ _ ?c0 ?c1 ?c2).mono ?_); (case c0 => go_simp); (case c1 => go_simp); (case c2 => go_simp); rintro e w1 ⟨rfl, rfl⟩))
  all_goals
    go_ret
    exact ⟨by first | (simp [hasY, made, *]; done) | (simp_all [hasY, made, in3]; done) | (simp [hasY, made, *]; rw [Bool.eq_iff_iff]; simp [*]; done), by repeat (first | exact HB.out | apply below_alloc | apply pw_below_drewN)⟩

set_option maxHeartbeats 4000000 in
set_option maxRecDepth 100000 in
theorem has_e (k wk op hn hg nn ng t a u : Int) (y : Bool) (er : Int) (w : World) :
    Calls Tryd.prog 27 #[.agg (evC k wk op hn hg nn ng t a u y er), .int .u8 101] w fun e w' => e = .returned (.bool (hasE k op)) ∧ Below w.heap.size w w' := by
  have hu := Tryd.underlying25
  have HB := Aside0.mk (Below.refl w.heap.size w)
  go_enter Tryd.func27, Tryd.ntmps27
  go_wp2
  go_quiet (fail)
  go_wp2_with (first | (go_at_call 35; (with_reducible refine (in_3 _ 1 3 4 _ _ ?c0 ?c1 ?c2).mono ?_); (case c0 => go_simp); (case c1 => go_simp); (case c2 => go_simp); rintro e w1 ⟨rfl, rfl⟩))
  all_goals
    go_ret
    exact ⟨by first | (simp [hasE, made, *]; done) | (simp_all [hasE, made, in3]; done) | (simp [hasE, made, *]; rw [Bool.eq_iff_iff]; simp [*]; done), by repeat (first | exact HB.out | apply below_alloc | apply pw_below_drewN)⟩

end Go.Proofs.YthniclbmpeklmaaDoor.Ev
namespace Go.Proofs.YthniclbmpeklmaaDoor.Ev
open Go.RowKit Go.Proofs.YthniclbmpeklmaaDoorW.PrintWords Go.Proofs.YthniclbmpeklmaaDoorW.PrintLast Go.Proofs.YthniclbmpeklmaaDoorW.PrintMore
set_option linter.unusedVariables false
set_option linter.unusedSimpArgs false
/-- Two blocks of the call's own, as they were laid. -/
structure Two (w W : World) (o1 o2 : Obj) : Prop where
  below : Below w.heap.size w W
  one : W.heap[w.heap.size]? = some o1
  two : W.heap[w.heap.size + 1]? = some o2
theorem Two.start (w : World) (o1 o2 : Obj) : Two w ((w.alloc o1).alloc o2) o1 o2 :=
  ⟨below_alloc (below_alloc (Below.refl _ _) _) _, by rw [Below.heap_alloc _ _ _ (by simp)]; exact heap_alloc_new w o1, by have := heap_alloc_new (w.alloc o1) o2; simpa using this⟩
theorem Two.size {w W : World} {o1 o2 : Obj} (h : Two w W o1 o2) : w.heap.size + 1 < W.heap.size := (Array.getElem?_eq_some_iff.1 h.two).1
theorem Two.step {w W W1 : World} {o1 o2 : Obj} (h : Two w W o1 o2) (hb : Below W.heap.size W W1) : Two w W1 o1 o2 :=
  ⟨below_step h.below hb, (hb.block _ (by have := h.size; omega)).trans h.one, (hb.block _ h.size).trans h.two⟩
theorem Two.cell {w W : World} {cs : Array Value} {t : TypeId} {o2 : Obj} (h : Two w W (.cells cs t (0, 0)) o2) (i : Nat) : W.cell? ⟨w.heap.size, i, none⟩ = cs[i]? := blk_cell h.one i
theorem Two.cell2 {w W : World} {cs : Array Value} {t : TypeId} {o1 : Obj} (h : Two w W o1 (.cells cs t (0, 0))) (i : Nat) : W.cell? ⟨w.heap.size + 1, i, none⟩ = cs[i]? := blk_cell h.two i

/-- Is what an event hasn't nothing? -/
def emptyB (k op hn hg nn ng t a u : Int) (y : Bool) (er : Int) : Bool :=
  !(!hasH k op && !(hn == 0 && hg == 0) || !hasN k op er && !(nn == 0 && ng == 0) || !hasT k op er && t != 0 || !hasA k op && a != 0) && ((hasU k op || u == 0) && (hasY k op || !y) && (hasE k op || er == 0))
theorem gate_load {P : Program} {ops : Array Oper} {o : Oper} {rest : List Oper} {a : Act} {Q : Exit → Act → World → Prop} {W : World} {t : TypeId} {p : Tmp} (_ho : o.op = .load t (.tmp p)) (h : wpList P ops Q (o :: rest) a W) : wpList P ops Q (o :: rest) a W := h

set_option maxHeartbeats 4000000 in
set_option maxRecDepth 100000 in
theorem empty_any (k wk op hn hg nn ng t a u : Int) (y : Bool) (er : Int) (w : World) :
    Calls Tryd.prog 23 #[.agg (evC k wk op hn hg nn ng t a u y er)] w fun e w' => e = .returned (.bool (emptyB k op hn hg nn ng t a u y er)) ∧ Below w.heap.size w w' := by
  have hu := Tryd.underlying25
  have hu2 := Tryd.underlying23
  have CH := Aside0.mk (fun wk hn hg nn ng t a u y W => has_h k wk op hn hg nn ng t a u y er W)
  have CN := Aside0.mk (fun wk hn hg nn ng t a u y W => has_n k wk op hn hg nn ng t a u y er W)
  have CT := Aside0.mk (fun wk hn hg nn ng t a u y W => has_t k wk op hn hg nn ng t a u y er W)
  have CA := Aside0.mk (fun wk hn hg nn ng t a u y W => has_a k wk op hn hg nn ng t a u y er W)
  have CU := Aside0.mk (fun wk hn hg nn ng t a u y W => has_u k wk op hn hg nn ng t a u y er W)
  have CY := Aside0.mk (fun wk hn hg nn ng t a u y W => has_y k wk op hn hg nn ng t a u y er W)
  have CE := Aside0.mk (fun wk hn hg nn ng t a u y W => has_e k wk op hn hg nn ng t a u y er W)
  unfold emptyB
  obtain ⟨bu, eu⟩ : ∃ b, b = hasU k op := ⟨_, rfl⟩
  obtain ⟨bY, eY⟩ : ∃ b, b = hasY k op := ⟨_, rfl⟩
  obtain ⟨be, ee⟩ : ∃ b, b = hasE k op := ⟨_, rfl⟩
  obtain ⟨bh, eh⟩ : ∃ b, b = hasH k op := ⟨_, rfl⟩
  obtain ⟨bn, en⟩ : ∃ b, b = hasN k op er := ⟨_, rfl⟩
  obtain ⟨bt, et⟩ : ∃ b, b = hasT k op er := ⟨_, rfl⟩
  obtain ⟨ba, ea⟩ : ∃ b, b = hasA k op := ⟨_, rfl⟩
  rw [← eh] at CH ⊢
  rw [← en] at CN ⊢
  rw [← et] at CT ⊢
  rw [← ea] at CA ⊢
  rw [← eu] at CU ⊢
  rw [← eY] at CY ⊢
  rw [← ee] at CE ⊢
  clear eh en et ea eu eY ee
  obtain ⟨q0, hq0⟩ : ∃ q : Bool, q = (!bh && !(hn == 0 && hg == 0) || !bn && !(nn == 0 && ng == 0) || !bt && t != 0 || !ba && a != 0) := ⟨_, rfl⟩
  rw [← hq0]
  have HQ := Aside0.mk hq0
  clear hq0
  obtain ⟨ev, hev⟩ : ∃ ev : Array Value, ev = evC k wk op hn hg nn ng t a u y er := ⟨_, rfl⟩
  have c0 : ev[0]? = some (.int .i64 k) := by rw [hev]; rfl
  have c1 : ev[1]? = some (.int .i64 wk) := by rw [hev]; rfl
  have c2 : ev[2]? = some (.int .i64 op) := by rw [hev]; rfl
  have c3 : ev[3]? = some (.int .i64 hn) := by rw [hev]; rfl
  have c4 : ev[4]? = some (.int .i64 hg) := by rw [hev]; rfl
  have c5 : ev[5]? = some (.int .i64 nn) := by rw [hev]; rfl
  have c6 : ev[6]? = some (.int .i64 ng) := by rw [hev]; rfl
  have c7 : ev[7]? = some (.int .i64 t) := by rw [hev]; rfl
  have c8 : ev[8]? = some (.int .i64 a) := by rw [hev]; rfl
  have c9 : ev[9]? = some (.int .i64 u) := by rw [hev]; rfl
  have c10 : ev[10]? = some (.bool y) := by rw [hev]; rfl
  have c11 : ev[11]? = some (.int .i64 er) := by rw [hev]; rfl
  have hsz : ev.size = 12 := by rw [hev]; rfl
  have HI := Aside0.mk (show (Tryd.prog.info? 25).map (·.size) = some ev.size by rw [hsz]; kernel_rfl)
  rw [← hev]
  clear hev
  go_enter Tryd.func23, Tryd.ntmps23
  go_upto_region 2 with (fail)
  clear hsz
  go_cut [44] (fun v wc => v = .bool q0 ∧ Aside0 (Two w wc (.cells ev 25) (.cells #[.int .i64 0, .int .i64 0] 23)))
  case first =>
    have HT := Aside0.mk (Two.start w (.cells ev 25) (.cells #[.int .i64 0, .int .i64 0] 23))
    go_wp2_with (first | (go_at_call 27; (first | (with_reducible refine (CH.out _ _ _ _ _ _ _ _ _ _).mono ?_) | (with_reducible refine (CN.out _ _ _ _ _ _ _ _ _ _).mono ?_) | (with_reducible refine (CT.out _ _ _ _ _ _ _ _ _ _).mono ?_) | (with_reducible refine (CA.out _ _ _ _ _ _ _ _ _ _).mono ?_)); rintro e w1 ⟨rfl, hb⟩; have T1 := Aside0.mk (Two.step HT.out hb); clear HT hb; (try clear hc hc2); have HT := T1; clear T1; have hc := fun i => HT.out.cell i; have hc2 := fun i => HT.out.cell2 i))
    all_goals
      go_meet
      case rel => exact ⟨by rw [HQ.out]; first | (simp [*]; done) | (simp_all; done), HT⟩
  case rest =>
    obtain ⟨rfl, HT⟩ := hcut
    clear CH CN CT CA HQ
    cases q0 with
    | true =>
      clear CU CY CE
      go_wp2
      go_ret
      exact ⟨rfl, HT.out.below⟩
    | false =>
      have hc := fun i => HT.out.cell i
      go_wp2_with (go_at_call 27; (first | (with_reducible refine (CU.out _ _ _ _ _ _ _ _ _ _).mono ?_) | (with_reducible refine (CY.out _ _ _ _ _ _ _ _ _ _).mono ?_) | (with_reducible refine (CE.out _ _ _ _ _ _ _ _ _ _).mono ?_)); rintro e w1 ⟨rfl, hb⟩; have T1 := Aside0.mk (Two.step HT.out hb); clear HT hb; (try clear hc); have HT := T1; clear T1; have hc := fun i => HT.out.cell i)
      all_goals
        go_ret
        exact ⟨by first | (simp [*]; done) | (simp_all; done), HT.out.below⟩
end Go.Proofs.YthniclbmpeklmaaDoor.Ev
namespace Go.Proofs.YthniclbmpeklmaaDoor.Ev
open Go.RowKit Go.Proofs.YthniclbmpeklmaaDoorW.PrintWords Go.Proofs.YthniclbmpeklmaaDoorW.PrintLast Go.Proofs.YthniclbmpeklmaaDoorW.PrintMore
set_option linter.unusedVariables false
set_option linter.unusedSimpArgs false
/-- Is there such a kind, with such an operation? -/
def kindB (k wk op : Int) : Bool :=
  (k == 1 && (op == 0 && wk == 0)) || (k == 4 && op == 0) || ((k == 2 || k == 5) && (decide (1 ≤ op) && decide (op ≤ 7))) || (k == 3 && (decide (1 ≤ op) && decide (op ≤ 4)))
/-- Is an event right? -/
def evRight (k wk op hn hg nn ng t a u : Int) (y : Bool) (er : Int) : Bool :=
  kindB k wk op && emptyB k op hn hg nn ng t a u y er && decide (0 ≤ wk) && decide (0 ≤ er) &&
    (k == 2 || ((k == 3 || (decide (0 ≤ hn) && decide (0 ≤ hg))) && (decide (0 ≤ nn) && decide (0 ≤ ng) && decide (0 ≤ a) && decide (0 ≤ u) && (if k = 5 then decide (-1 ≤ t) else decide (0 ≤ t)))))

set_option maxHeartbeats 4000000 in
set_option maxRecDepth 100000 in
theorem kind_any (k wk op hn hg nn ng t a u : Int) (y : Bool) (er : Int) (w : World) :
    Calls Tryd.prog 22 #[.agg (evC k wk op hn hg nn ng t a u y er)] w fun e w' => e = .returned (.bool (kindB k wk op)) ∧ Below w.heap.size w w' := by
  have hu := Tryd.underlying25
  have HB := Aside0.mk (Below.refl w.heap.size w)
  go_enter Tryd.func22, Tryd.ntmps22
  go_wp2
  all_goals
    go_ret
    exact ⟨by first | (simp [kindB, *]; done) | (simp_all [kindB]; done) | (simp [kindB, *]; rw [Bool.eq_iff_iff]; simp [*]; done) | (simp [kindB, *]; omega), by repeat (first | exact HB.out | apply below_alloc | apply pw_below_drewN)⟩

set_option maxHeartbeats 4000000 in
set_option maxRecDepth 100000 in
theorem right_any (k wk op hn hg nn ng t a u : Int) (y : Bool) (er : Int) (w : World) :
    Calls Tryd.prog 10 #[.agg (evC k wk op hn hg nn ng t a u y er)] w fun e w' => e = .returned (.bool (evRight k wk op hn hg nn ng t a u y er)) ∧ Below w.heap.size w w' := by
  have hu := Tryd.underlying25
  have CK := Aside0.mk (fun W => kind_any k wk op hn hg nn ng t a u y er W)
  have CE := Aside0.mk (fun W => empty_any k wk op hn hg nn ng t a u y er W)
  unfold evRight
  obtain ⟨bk, ek⟩ : ∃ b, b = kindB k wk op := ⟨_, rfl⟩
  obtain ⟨be, ee⟩ : ∃ b, b = emptyB k op hn hg nn ng t a u y er := ⟨_, rfl⟩
  rw [← ek] at CK ⊢
  rw [← ee] at CE ⊢
  clear ek ee
  have HB := Aside0.mk (below_alloc (Below.refl w.heap.size w) (.cells (evC k wk op hn hg nn ng t a u y er) 25))
  have HO := Aside0.mk (heap_alloc_new w (.cells (evC k wk op hn hg nn ng t a u y er) 25))
  go_enter Tryd.func10, Tryd.ntmps10
  go_wp2_with (first | (go_at_call 22; (with_reducible refine (CK.out _).mono ?_); rintro e w1 ⟨rfl, hb⟩; have n0 := Aside0.mk (below_step HB.out hb); have n1 := Aside0.mk ((hb.block _ (by simp)).trans HO.out); clear HB HO hb; have HB := n0; have HO := n1; clear n0 n1; have hc := fun i => blk_cell HO.out i; have hz := Aside0.mk (blk_lt HO.out)) | (go_at_call 23; (with_reducible refine (CE.out _).mono ?_); rintro e w1 ⟨rfl, hb⟩; have n0 := Aside0.mk (below_step HB.out hb); have n1 := Aside0.mk ((hb.block _ hz.out).trans HO.out); clear hc; clear HB HO hb; have HB := n0; have HO := n1; clear n0 n1; have hc := fun i => blk_cell HO.out i))
  all_goals
    go_ret
    exact ⟨by first | (simp [*]; done) | (simp_all; done) | (simp [*]; omega) | (simp [*]; rw [Bool.eq_iff_iff]; simp [*]; omega), HB.out⟩
end Go.Proofs.YthniclbmpeklmaaDoor.Ev
