/- What is proved: whether what an event has not is nothing, as the reference tells it; no conditions. -/
import Derived.Test.YthniclbmpeklmaaEvB
namespace Go.Proofs.Ythniclbmpeklmaa.Ev
open Go.RowKit Go.Proofs.YthniclbmpeklmaaW.PrintWords Go.Proofs.YthniclbmpeklmaaW.PrintLast Go.Proofs.YthniclbmpeklmaaW.PrintMore
set_option linter.unusedVariables false
set_option linter.unusedSimpArgs false
/-- Two blocks of the call's own, as they were laid. -/
structure Two (w W : World) (o1 o2 : Obj) : Prop where
  below : Below w.heap.size w W
  one : W.heap[w.heap.size]? = some o1
  two : W.heap[w.heap.size + 1]? = some o2
theorem Two.start (w : World) (o1 o2 : Obj) : Two w ((w.alloc o1).alloc o2) o1 o2 :=
  ⟨below_alloc (below_alloc (Below.refl _ _) _) _, by rw [Below.heap_alloc _ _ _ (by simp)]; exact heap_alloc_new w o1, by have := heap_alloc_new (w.alloc o1) o2; simpa using this⟩
theorem Two.size {w W : World} {o1 o2 : Obj} (h : Two w W o1 o2) : w.heap.size + 1 < W.heap.size := (Array.getElem?_eq_some_iff.1 h.two).1
theorem Two.step {w W W1 : World} {o1 o2 : Obj} (h : Two w W o1 o2) (hb : Below W.heap.size W W1) : Two w W1 o1 o2 :=
  ⟨below_step h.below hb, (hb.block _ (by have := h.size; omega)).trans h.one, (hb.block _ h.size).trans h.two⟩
theorem Two.cell {w W : World} {cs : Array Value} {t : TypeId} {o2 : Obj} (h : Two w W (.cells cs t (0, 0)) o2) (i : Nat) : W.cell? ⟨w.heap.size, i, none⟩ = cs[i]? := blk_cell h.one i
theorem Two.cell2 {w W : World} {cs : Array Value} {t : TypeId} {o1 : Obj} (h : Two w W o1 (.cells cs t (0, 0))) (i : Nat) : W.cell? ⟨w.heap.size + 1, i, none⟩ = cs[i]? := blk_cell h.two i

/-- Is what an event hasn't nothing? -/
def emptyB (k op hn hg nn ng t a u : Int) (y : Bool) (er : Int) : Bool :=
  !(!hasH k op && !(hn == 0 && hg == 0) || !hasN k op er && !(nn == 0 && ng == 0) || !hasT k op er && t != 0 || !hasA k op && a != 0) && ((hasU k op || u == 0) && (hasY k op || !y) && (hasE k op || er == 0))
theorem gate_load {P : Program} {ops : Array Oper} {o : Oper} {rest : List Oper} {a : Act} {Q : Exit → Act → World → Prop} {W : World} {t : TypeId} {p : Tmp} (_ho : o.op = .load t (.tmp p)) (h : wpList P ops Q (o :: rest) a W) : wpList P ops Q (o :: rest) a W := h

set_option maxHeartbeats 4000000 in
set_option maxRecDepth 100000 in
theorem empty_any (k wk op hn hg nn ng t a u : Int) (y : Bool) (er : Int) (w : World) :
    Calls Try.prog 90 #[.agg (evC k wk op hn hg nn ng t a u y er)] w fun e w' => e = .returned (.bool (emptyB k op hn hg nn ng t a u y er)) ∧ Below w.heap.size w w' := by
  have hu := Try.underlying50
  have hu2 := Try.underlying36
  have CH := Aside0.mk (fun wk hn hg nn ng t a u y W => has_h k wk op hn hg nn ng t a u y er W)
  have CN := Aside0.mk (fun wk hn hg nn ng t a u y W => has_n k wk op hn hg nn ng t a u y er W)
  have CT := Aside0.mk (fun wk hn hg nn ng t a u y W => has_t k wk op hn hg nn ng t a u y er W)
  have CA := Aside0.mk (fun wk hn hg nn ng t a u y W => has_a k wk op hn hg nn ng t a u y er W)
  have CU := Aside0.mk (fun wk hn hg nn ng t a u y W => has_u k wk op hn hg nn ng t a u y er W)
  have CY := Aside0.mk (fun wk hn hg nn ng t a u y W => has_y k wk op hn hg nn ng t a u y er W)
  have CE := Aside0.mk (fun wk hn hg nn ng t a u y W => has_e k wk op hn hg nn ng t a u y er W)
  unfold emptyB
  obtain ⟨bu, eu⟩ : ∃ b, b = hasU k op := ⟨_, rfl⟩
  obtain ⟨bY, eY⟩ : ∃ b, b = hasY k op := ⟨_, rfl⟩
  obtain ⟨be, ee⟩ : ∃ b, b = hasE k op := ⟨_, rfl⟩
  obtain ⟨bh, eh⟩ : ∃ b, b = hasH k op := ⟨_, rfl⟩
  obtain ⟨bn, en⟩ : ∃ b, b = hasN k op er := ⟨_, rfl⟩
  obtain ⟨bt, et⟩ : ∃ b, b = hasT k op er := ⟨_, rfl⟩
  obtain ⟨ba, ea⟩ : ∃ b, b = hasA k op := ⟨_, rfl⟩
  rw [← eh] at CH ⊢
  rw [← en] at CN ⊢
  rw [← et] at CT ⊢
  rw [← ea] at CA ⊢
  rw [← eu] at CU ⊢
  rw [← eY] at CY ⊢
  rw [← ee] at CE ⊢
  clear eh en et ea eu eY ee
  obtain ⟨q0, hq0⟩ : ∃ q : Bool, q = (!bh && !(hn == 0 && hg == 0) || !bn && !(nn == 0 && ng == 0) || !bt && t != 0 || !ba && a != 0) := ⟨_, rfl⟩
  rw [← hq0]
  have HQ := Aside0.mk hq0
  clear hq0
  obtain ⟨ev, hev⟩ : ∃ ev : Array Value, ev = evC k wk op hn hg nn ng t a u y er := ⟨_, rfl⟩
  have c0 : ev[0]? = some (.int .i64 k) := by rw [hev]; rfl
  have c1 : ev[1]? = some (.int .i64 wk) := by rw [hev]; rfl
  have c2 : ev[2]? = some (.int .i64 op) := by rw [hev]; rfl
  have c3 : ev[3]? = some (.int .i64 hn) := by rw [hev]; rfl
  have c4 : ev[4]? = some (.int .i64 hg) := by rw [hev]; rfl
  have c5 : ev[5]? = some (.int .i64 nn) := by rw [hev]; rfl
  have c6 : ev[6]? = some (.int .i64 ng) := by rw [hev]; rfl
  have c7 : ev[7]? = some (.int .i64 t) := by rw [hev]; rfl
  have c8 : ev[8]? = some (.int .i64 a) := by rw [hev]; rfl
  have c9 : ev[9]? = some (.int .i64 u) := by rw [hev]; rfl
  have c10 : ev[10]? = some (.bool y) := by rw [hev]; rfl
  have c11 : ev[11]? = some (.int .i64 er) := by rw [hev]; rfl
  have hsz : ev.size = 12 := by rw [hev]; rfl
  have HI := Aside0.mk (show (Try.prog.info? 50).map (·.size) = some ev.size by rw [hsz]; kernel_rfl)
  rw [← hev]
  clear hev
  go_enter Try.func90, Try.ntmps90
  go_upto_region 2 with (fail)
  clear hsz
  go_cut [44] (fun v wc => v = .bool q0 ∧ Aside0 (Two w wc (.cells ev 50) (.cells #[.int .i64 0, .int .i64 0] 36)))
  case first =>
    have HT := Aside0.mk (Two.start w (.cells ev 50) (.cells #[.int .i64 0, .int .i64 0] 36))
    go_wp2_with (first | (go_at_call 91; (first | (with_reducible refine (CH.out _ _ _ _ _ _ _ _ _ _).mono ?_) | (with_reducible refine (CN.out _ _ _ _ _ _ _ _ _ _).mono ?_) | (with_reducible refine (CT.out _ _ _ _ _ _ _ _ _ _).mono ?_) | (with_reducible refine (CA.out _ _ _ _ _ _ _ _ _ _).mono ?_)); rintro e w1 ⟨rfl, hb⟩; have T1 := Aside0.mk (Two.step HT.out hb); clear HT hb; (try clear hc hc2); have HT := T1; clear T1; have hc := fun i => HT.out.cell i; have hc2 := fun i => HT.out.cell2 i))
    all_goals
      go_meet
      case rel => exact ⟨by rw [HQ.out]; first | (simp [*]; done) | (simp_all; done), HT⟩
  case rest =>
    obtain ⟨rfl, HT⟩ := hcut
    clear CH CN CT CA HQ
    cases q0 with
    | true =>
      clear CU CY CE
      go_wp2
      go_ret
      exact ⟨rfl, HT.out.below⟩
    | false =>
      have hc := fun i => HT.out.cell i
      go_wp2_with (go_at_call 91; (first | (with_reducible refine (CU.out _ _ _ _ _ _ _ _ _ _).mono ?_) | (with_reducible refine (CY.out _ _ _ _ _ _ _ _ _ _).mono ?_) | (with_reducible refine (CE.out _ _ _ _ _ _ _ _ _ _).mono ?_)); rintro e w1 ⟨rfl, hb⟩; have T1 := Aside0.mk (Two.step HT.out hb); clear HT hb; (try clear hc); have HT := T1; clear T1; have hc := fun i => HT.out.cell i)
      all_goals
        go_ret
        exact ⟨by first | (simp [*]; done) | (simp_all; done), HT.out.below⟩
end Go.Proofs.Ythniclbmpeklmaa.Ev
