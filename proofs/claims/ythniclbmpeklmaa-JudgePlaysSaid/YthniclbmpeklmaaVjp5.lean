/- What is proved: a part of the way to the statement JudgePlaysSaid: KJfx4, KJfx5, JuI, JrP, JrQ; no conditions. Put together by a program of this session (claimv.py). -/
import Derived.Test.YthniclbmpeklmaaVjp4
section
namespace Go.Proofs.Ythniclbmpeklmaa.KJf
open Go.RowKit Go.Proofs.YthniclbmpeklmaaW.PrintWords Go.Proofs.YthniclbmpeklmaaW.PrintLast Go.Proofs.YthniclbmpeklmaaW.PrintMore
attribute [local go_sem] max2_int min2_int max_two min_two max_three min_three max_four min_four   -- for this text's walks alone
set_option linter.unusedVariables false
set_option linter.unusedSimpArgs false
def knellref12_turn.f (k : Nat) (a0_0 : Int) (l0_1 : List (S127)) (a1_0 : Int) (a1_1 : Int) (a2 : Int) : Option (Int × (List (S127))) := (some (([] : List (S127)) : List (S127))).bind fun y156 => (if y156.length + l0_1.length < 4398046511104 then ((some (y156 ++ l0_1 : List (S127))).bind fun y159 => ((knellref12_Find.f k a0_0 y159 a1_0 a1_1).bind fun t162 => (if 0 ≤ t162 then (if t162 < (y159.length : Int) then (some (a0_0, (y159.set (t162 : Int).toNat (⟨(⟨(rd_T127 y159 t162).f0.f0, (rd_T127 y159 t162).f0.f1⟩ : S36), a2, (rd_T127 y159 t162).f2⟩ : S127)))) else (none)) else (none)))) else (none))
def knellref12_turn.T2 : Bool × List (List Nat × List Nat) := (true, [([], []), ([0], [0]), ([], []), ([], []), ([2, 3], [2, 3]), ([], []), ([1, 4, 0, 1, 2, 3, 4, 5], [1, 4]), ([6, 0, 1, 2, 3, 4, 5], [6]), ([7, 5, 4, 0, 1, 2, 3, 4, 5], [5, 7])])
def knellref12_turn.B2 : List Nat := [0, 1, 0, 0, 12, 0, 63, 127, 255]
theorem knellref12_turn.tab2 : rtab .any (opsOf Try.f79 2) = knellref12_turn.T2 := by kernel_rfl
theorem knellref12_turn.bits2 : waitsOk knellref12_turn.T2.2 knellref12_turn.B2 = true := by kernel_rfl
set_option maxHeartbeats 8000000 in
set_option maxRecDepth 100000 in
theorem knellref12_turn.calls (k : Nat) (a0_0 : Int) (A0_1 : Option Addr) (c0_1 : Nat) (l0_1 : List (S127)) (a1_0 : Int) (a1_1 : Int) (a2 : Int) (r1 : Int) (r2 : List (S127)) (w : World) (hr0_1 : Kd.C k127 w A0_1 l0_1.length l0_1) (hc0_1 : l0_1.length ≤ c0_1) (h : knellref12_turn.f k a0_0 l0_1 a1_0 a1_1 a2 = some (r1, r2)) :
  Calls Try.prog 79 #[.agg #[.int .i64 a0_0, .slice A0_1 l0_1.length c0_1], .agg #[.int .i64 a1_0, .int .i64 a1_1], .int .i64 a2] w fun e w' => ∃ v1_ : Value, e = .returned (.agg #[.int .i64 r1, v1_]) ∧ Kd.R k127 127 w' w.heap.size (fun _ => True) v1_ r2 ∧ Below w.heap.size w w' := by
 have hu43 := Try.underlying43
 have hu36 := Try.underlying36
 have HR0_1 := Aside0.mk hr0_1
 have HC0_1 := Aside0.mk hc0_1
 clear hr0_1 hc0_1
 have HB := Aside0.mk (Below.refl w.heap.size w)
 have H : ((some (([] : List (S127)) : List (S127))).bind fun y156 => (if y156.length + l0_1.length < 4398046511104 then ((some (y156 ++ l0_1 : List (S127))).bind fun y159 => ((knellref12_Find.f k a0_0 y159 a1_0 a1_1).bind fun t162 => (if 0 ≤ t162 then (if t162 < (y159.length : Int) then (some (a0_0, (y159.set (t162 : Int).toNat (⟨(⟨(rd_T127 y159 t162).f0.f0, (rd_T127 y159 t162).f0.f1⟩ : S36), a2, (rd_T127 y159 t162).f2⟩ : S127)))) else (none)) else (none)))) else (none))) = some (r1, r2) := h
 clear h
 obtain ⟨y156, hy156⟩ : ∃ y_ : List (S127), y_ = (([] : List (S127))) := ⟨_, rfl⟩
 replace H : (if y156.length + l0_1.length < 4398046511104 then ((some (y156 ++ l0_1 : List (S127))).bind fun y159 => ((knellref12_Find.f k a0_0 y159 a1_0 a1_1).bind fun t162 => (if 0 ≤ t162 then (if t162 < (y159.length : Int) then (some (a0_0, (y159.set (t162 : Int).toNat (⟨(⟨(rd_T127 y159 t162).f0.f0, (rd_T127 y159 t162).f0.f1⟩ : S36), a2, (rd_T127 y159 t162).f2⟩ : S127)))) else (none)) else (none)))) else (none)) = some (r1, r2) := by first | (rw [hy156]; with_reducible exact H) | (have H2_ := (Option.bind_some _ _).symm.trans H; rw [hy156]; with_reducible exact H2_) | (have H2_ := (Option.bind_some _ _).symm.trans H; with_reducible exact H2_) | with_reducible exact H | (rw [hy156]; exact H) | exact H
 have Ny156 := Aside0.mk hy156
 clear hy156
 by_cases c4 : y156.length + l0_1.length < 4398046511104
 ·rw [if_pos c4] at H
  have LMc4 := Aside0.mk c4
  clear c4
  obtain ⟨y159, hy159⟩ : ∃ y_ : List (S127), y_ = (y156 ++ l0_1) := ⟨_, rfl⟩
  replace H : ((knellref12_Find.f k a0_0 y159 a1_0 a1_1).bind fun t162 => (if 0 ≤ t162 then (if t162 < (y159.length : Int) then (some (a0_0, (y159.set (t162 : Int).toNat (⟨(⟨(rd_T127 y159 t162).f0.f0, (rd_T127 y159 t162).f0.f1⟩ : S36), a2, (rd_T127 y159 t162).f2⟩ : S127)))) else (none)) else (none))) = some (r1, r2) := by first | (rw [hy159]; with_reducible exact H) | (have H2_ := (Option.bind_some _ _).symm.trans H; rw [hy159]; with_reducible exact H2_) | (have H2_ := (Option.bind_some _ _).symm.trans H; with_reducible exact H2_) | with_reducible exact H | (rw [hy159]; exact H) | exact H
  have Ny159 := Aside0.mk hy159
  clear hy159
  replace H := Option.bind_eq_some_iff.mp H
  obtain ⟨t162, A50, H⟩ := H
  replace H : (if 0 ≤ t162 then (if t162 < (y159.length : Int) then (some (a0_0, (y159.set (t162 : Int).toNat (⟨(⟨(rd_T127 y159 t162).f0.f0, (rd_T127 y159 t162).f0.f1⟩ : S36), a2, (rd_T127 y159 t162).f2⟩ : S127)))) else (none)) else (none)) = some (r1, r2) := H
  have A5 := Aside0.mk A50
  clear A50
  by_cases c6 : 0 ≤ t162
  ·rw [if_pos c6] at H
   have c6b0 : decide (0 ≤ t162) = true := decide_eq_true c6
   clear c6
   by_cases c7 : t162 < (y159.length : Int)
   ·rw [if_pos c7] at H
    have c7b0 : decide (t162 < (y159.length : Int)) = true := decide_eq_true c7
    clear c7
    obtain ⟨y163, hy163⟩ : ∃ y_ : List (S127), y_ = (y159.set (t162 : Int).toNat (⟨(⟨(rd_T127 y159 t162).f0.f0, (rd_T127 y159 t162).f0.f1⟩ : S36), a2, (rd_T127 y159 t162).f2⟩ : S127)) := ⟨_, rfl⟩
    replace H : (some (a0_0, y163)) = some (r1, r2) := by first | (rw [hy163]; with_reducible exact H) | (have H2_ := (Option.bind_some _ _).symm.trans H; rw [hy163]; with_reducible exact H2_) | (have H2_ := (Option.bind_some _ _).symm.trans H; with_reducible exact H2_) | with_reducible exact H | (rw [hy163]; exact H) | exact H
    have Ny163 := Aside0.mk hy163
    clear hy163
    simp only [Option.some.injEq, Prod.mk.injEq] at H
    obtain ⟨rfl, rfl⟩ := H
    go_enter Try.func79, Try.ntmps79
    try go_wp2_with (first | ((with_reducible refine gate_dst (N := 3) rfl ?_); refine box_event ?hg (N := 3) ?hd (cs := #[.int .i64 a0_0, .slice A0_1 l0_1.length c0_1]) (t := 43) ?hr ?_; (case hd => rfl); (case hg => rfl); (case hr => first | (go_simp; done) | (go_simp; rfl)); intro gb153 hg w9 hbox hb; have n0_ := Aside0.mk (below_step (by repeat (first | (with_reducible first | exact HB.out | apply below_alloc | apply pw_below_drewN | apply below_drew1) | exact HB.out)) hb); have n1_ := Aside0.mk (hbox); have n2_ := Aside0.mk ((by rw [hg]; exact (below_size (by repeat (first | (with_reducible first | exact HB.out | apply below_alloc | apply pw_below_drewN | apply below_drew1) | exact HB.out))) : w.heap.size ≤ gb153)); have n3_ := Aside0.mk ((by rw [hg]; exact (below_size (by repeat (first | (with_reducible first | exact HB.out | apply below_alloc | apply pw_below_drewN | apply below_drew1) | exact HB.out))) : w.heap.size ≤ gb153)); clear HB; have HB := n0_; have BK153 := n1_; have GW153 := n2_; have GE153 := n3_; clear n0_ n1_ n2_ n3_; clear hb hbox hg) | ((with_reducible refine gate_dst (N := 4) rfl ?_); refine box_event ?hg (N := 4) ?hd (cs := #[.int .i64 a1_0, .int .i64 a1_1]) (t := 36) ?hr ?_; (case hd => rfl); (case hg => rfl); (case hr => first | (go_simp; done) | (go_simp; rfl)); intro gb154 hg w10 hbox hb; have n0_ := Aside0.mk (blk_below (g := gb153) (o := .cells #[.int .i64 a0_0, .slice A0_1 l0_1.length c0_1] 43 (0, 0)) (by (with_reducible repeat (first | refine blk_drewN ?_ _ | refine blk_drew ?_ | refine blk_alloc ?_ _)); exact BK153.out) hb); have n1_ := Aside0.mk (below_step (by repeat (first | (with_reducible first | exact HB.out | apply below_alloc | apply pw_below_drewN | apply below_drew1 | refine below_set ?_ GE153.out) | exact HB.out)) hb); have n2_ := Aside0.mk (hbox); have n3_ := Aside0.mk ((by rw [hg]; exact (below_size (by repeat (first | (with_reducible first | exact HB.out | apply below_alloc | apply pw_below_drewN | apply below_drew1 | refine below_set ?_ GE153.out) | exact HB.out))) : w.heap.size ≤ gb154)); have n4_ := Aside0.mk ((by rw [hg]; exact (below_size (by repeat (first | (with_reducible first | exact HB.out | apply below_alloc | apply pw_below_drewN | apply below_drew1 | refine below_set ?_ GE153.out) | exact HB.out))) : w.heap.size ≤ gb154)); have n5_ := Aside0.mk ((by rw [hg]; exact Nat.ne_of_lt (blk_lt (g := gb153) (o := .cells #[.int .i64 a0_0, .slice A0_1 l0_1.length c0_1] 43 (0, 0)) (by (with_reducible repeat (first | refine blk_drewN ?_ _ | refine blk_drew ?_ | refine blk_alloc ?_ _)); exact BK153.out)) : gb153 ≠ gb154)); have n6_ := Aside0.mk ((by rw [hg]; exact Nat.ne_of_gt (blk_lt (g := gb153) (o := .cells #[.int .i64 a0_0, .slice A0_1 l0_1.length c0_1] 43 (0, 0)) (by (with_reducible repeat (first | refine blk_drewN ?_ _ | refine blk_drew ?_ | refine blk_alloc ?_ _)); exact BK153.out)) : gb154 ≠ gb153)); clear BK153; clear HB; have BK153 := n0_; have HB := n1_; have BK154 := n2_; have GW154 := n3_; have GE154 := n4_; have NB153_154 := n5_; have NB154_153 := n6_; clear n0_ n1_ n2_ n3_ n4_ n5_ n6_; clear hb hbox hg) | ((with_reducible refine gate_dst (N := 6) rfl ?_); refine box_event ?hg (N := 6) ?hd (cs := #[.int .i64 0, .slice none 0 0]) (t := 43) ?hr ?_; (case hd => rfl); (case hg => rfl); (case hr => first | (go_simp; done) | (go_simp; rfl)); intro gb155 hg w11 hbox hb; have n0_ := Aside0.mk (blk_below (g := gb153) (o := .cells #[.int .i64 a0_0, .slice A0_1 l0_1.length c0_1] 43 (0, 0)) (by (with_reducible repeat (first | refine blk_drewN ?_ _ | refine blk_drew ?_ | refine blk_alloc ?_ _)); exact BK153.out) hb); have n1_ := Aside0.mk (blk_below (g := gb154) (o := .cells #[.int .i64 a1_0, .int .i64 a1_1] 36 (0, 0)) (by (with_reducible repeat (first | refine blk_drewN ?_ _ | refine blk_drew ?_ | refine blk_alloc ?_ _)); exact BK154.out) hb); have n2_ := Aside0.mk (below_step (by repeat (first | (with_reducible first | exact HB.out | apply below_alloc | apply pw_below_drewN | apply below_drew1 | refine below_set ?_ GE153.out | refine below_set ?_ GE154.out) | exact HB.out)) hb); have n3_ := Aside0.mk (hbox); have n4_ := Aside0.mk ((by rw [hg]; exact (below_size (by repeat (first | (with_reducible first | exact HB.out | apply below_alloc | apply pw_below_drewN | apply below_drew1 | refine below_set ?_ GE153.out | refine below_set ?_ GE154.out) | exact HB.out))) : w.heap.size ≤ gb155)); have n5_ := Aside0.mk ((by rw [hg]; exact (below_size (by repeat (first | (with_reducible first | exact HB.out | apply below_alloc | apply pw_below_drewN | apply below_drew1 | refine below_set ?_ GE153.out | refine below_set ?_ GE154.out) | exact HB.out))) : w.heap.size ≤ gb155)); have n6_ := Aside0.mk ((by rw [hg]; exact Nat.ne_of_lt (blk_lt (g := gb153) (o := .cells #[.int .i64 a0_0, .slice A0_1 l0_1.length c0_1] 43 (0, 0)) (by (with_reducible repeat (first | refine blk_drewN ?_ _ | refine blk_drew ?_ | refine blk_alloc ?_ _)); exact BK153.out)) : gb153 ≠ gb155)); have n7_ := Aside0.mk ((by rw [hg]; exact Nat.ne_of_gt (blk_lt (g := gb153) (o := .cells #[.int .i64 a0_0, .slice A0_1 l0_1.length c0_1] 43 (0, 0)) (by (with_reducible repeat (first | refine blk_drewN ?_ _ | refine blk_drew ?_ | refine blk_alloc ?_ _)); exact BK153.out)) : gb155 ≠ gb153)); have n8_ := Aside0.mk ((by rw [hg]; exact Nat.ne_of_lt (blk_lt (g := gb154) (o := .cells #[.int .i64 a1_0, .int .i64 a1_1] 36 (0, 0)) (by (with_reducible repeat (first | refine blk_drewN ?_ _ | refine blk_drew ?_ | refine blk_alloc ?_ _)); exact BK154.out)) : gb154 ≠ gb155)); have n9_ := Aside0.mk ((by rw [hg]; exact Nat.ne_of_gt (blk_lt (g := gb154) (o := .cells #[.int .i64 a1_0, .int .i64 a1_1] 36 (0, 0)) (by (with_reducible repeat (first | refine blk_drewN ?_ _ | refine blk_drew ?_ | refine blk_alloc ?_ _)); exact BK154.out)) : gb155 ≠ gb154)); clear BK153; clear BK154; clear HB; have BK153 := n0_; have BK154 := n1_; have HB := n2_; have BK155 := n3_; have GW155 := n4_; have GE155 := n5_; have NB153_155 := n6_; have NB155_153 := n7_; have NB154_155 := n8_; have NB155_154 := n9_; clear n0_ n1_ n2_ n3_ n4_ n5_ n6_ n7_ n8_ n9_; clear hb hbox hg) | ((with_reducible refine gate_dst (N := 7) rfl ?_); refine Kd.R_lit k127 _ 127 ?hg (N := 7) ?hd (xs := ([] : List (S127))) (inner := []) (ok := fun _ => True) (okp := fun _ => True) ?hr ?hp (fun _ hk => hk) trivial (Below.refl _ _) (Nat.le_refl _) (by simp) ?_; (case hd => rfl); (case hg => rfl); (case hr => first | (go_simp; done) | (go_simp; rfl)); (case hp => exact (Reps.none _ _)); intro v157 w12 ho13 hb hg_ hnew_; clear hg_ hnew_; (first | rw [← Ny156.out] at ho13 | (simp only [Int.reduceToNat] at ho13; rw [← Ny156.out] at ho13)); have n0_ := Aside0.mk (Kd.R_lower ho13 (below_size (by repeat (first | (with_reducible first | exact HB.out | apply below_alloc | apply pw_below_drewN | apply below_drew1 | refine below_set ?_ GE153.out | refine below_set ?_ GE154.out | refine below_set ?_ GE155.out) | exact HB.out)))); have n1_ := Aside0.mk (blk_below (g := gb153) (o := .cells #[.int .i64 a0_0, .slice A0_1 l0_1.length c0_1] 43 (0, 0)) (by (with_reducible repeat (first | refine blk_drewN ?_ _ | refine blk_drew ?_ | refine blk_alloc ?_ _)); exact BK153.out) hb); have n2_ := Aside0.mk (blk_below (g := gb154) (o := .cells #[.int .i64 a1_0, .int .i64 a1_1] 36 (0, 0)) (by (with_reducible repeat (first | refine blk_drewN ?_ _ | refine blk_drew ?_ | refine blk_alloc ?_ _)); exact BK154.out) hb); have n3_ := Aside0.mk (blk_below (g := gb155) (o := .cells #[.int .i64 0, .slice none 0 0] 43 (0, 0)) (by (with_reducible repeat (first | refine blk_drewN ?_ _ | refine blk_drew ?_ | refine blk_alloc ?_ _)); exact BK155.out) hb); have n4_ := Aside0.mk (below_step (by repeat (first | (with_reducible first | exact HB.out | apply below_alloc | apply pw_below_drewN | apply below_drew1 | refine below_set ?_ GE153.out | refine below_set ?_ GE154.out | refine below_set ?_ GE155.out) | exact HB.out)) hb); clear BK153; clear BK154; clear BK155; clear HB; have HO158 := n0_; have BK153 := n1_; have BK154 := n2_; have BK155 := n3_; have HB := n4_; clear n0_ n1_ n2_ n3_ n4_; clear hb ho13; have hnb14 := NB153_154.out; have hnc14 := NB154_153.out; have hnb15 := NB153_155.out; have hnc15 := NB155_153.out; have hcz16_0 : w12.cell? ⟨gb153, 0, none⟩ = some (.int .i64 a0_0) := (blk_cell BK153.out 0).trans rfl; have hcz16_1 : w12.cell? ⟨gb153, 1, none⟩ = some (.slice A0_1 l0_1.length c0_1) := (blk_cell BK153.out 1).trans rfl; have hfz16_0 := blk_frozen BK153.out 0; have hfz16_1 := blk_frozen BK153.out 1) | ((with_reducible refine gate_builtin (b := .append) (xs := #[.tmp 7, .tmp 9]) rfl ?_); at_builtin; refine Kd.R_append_rows k127 (w0 := w) w.heap.size rfl (.tmp 7) (.tmp 9) 41 127 (.agg #[(.int .i64 0), (.int .i64 0), (.int .i64 0), (.int .i64 0)]) 32 rfl Try.underlying41 info127 rfl (by decide) (by omega) v157 y156 l0_1 _ _ _ (fun _ => True) (fun _ => False) rfl rfl ?aO ?aR (fun _ _ h => h) (fun _ h => h.elim) ?aF ?aB ?aS ?aL ?_; (case aR => repeat (first | exact (Kd.C_below HR0_1.out HB.out) | (with_reducible refine Kd.C_alloc ?_ _) | (with_reducible refine Kd.C_drewN ?_ _) | (with_reducible refine Kd.C_drew ?_))); (case aB => exact (by repeat (first | (with_reducible first | exact HB.out | apply below_alloc | apply pw_below_drewN | apply below_drew1 | refine below_set ?_ GE153.out | refine below_set ?_ GE154.out | refine below_set ?_ GE155.out) | exact HB.out))); (case aF => exact (fun _ _ => trivial)); (case aO => exact (by (with_reducible repeat (first | apply Kd.R_alloc | apply Kd.R_drewN | apply Kd.R_drew)); exact HO158.out)); (case aS => exact (below_size (by repeat (first | (with_reducible first | exact HB.out | apply below_alloc | apply pw_below_drewN | apply below_drew1 | refine below_set ?_ GE153.out | refine below_set ?_ GE154.out | refine below_set ?_ GE155.out) | exact HB.out)))); (case aL => have := LMc4.out; omega); intro v160 w17 ho hb hg hat; rw [← Ny159.out] at ho; have n0_ := Aside0.mk (blk_grown (g := gb153) (o := .cells #[.int .i64 a0_0, .slice A0_1 l0_1.length c0_1] 43 (0, 0)) (by (with_reducible repeat (first | refine blk_drewN ?_ _ | refine blk_drew ?_ | refine blk_alloc ?_ _)); exact BK153.out) hg (Kd.R_ne HO158.out BK153.out (by decide))); have n1_ := Aside0.mk (blk_grown (g := gb154) (o := .cells #[.int .i64 a1_0, .int .i64 a1_1] 36 (0, 0)) (by (with_reducible repeat (first | refine blk_drewN ?_ _ | refine blk_drew ?_ | refine blk_alloc ?_ _)); exact BK154.out) hg (Kd.R_ne HO158.out BK154.out (by decide))); have n2_ := Aside0.mk (blk_grown (g := gb155) (o := .cells #[.int .i64 0, .slice none 0 0] 43 (0, 0)) (by (with_reducible repeat (first | refine blk_drewN ?_ _ | refine blk_drew ?_ | refine blk_alloc ?_ _)); exact BK155.out) hg (Kd.R_ne HO158.out BK155.out (by decide))); have n3_ := Aside0.mk (hb); have n4_ := Aside0.mk (ho); clear BK153; clear BK154; clear BK155; clear HB; clear HO158; have BK153 := n0_; have BK154 := n1_; have BK155 := n2_; have HB := n3_; have HO161 := n4_; clear n0_ n1_ n2_ n3_ n4_; clear ho hb hg hat; obtain ⟨Ao18, co18, eo18⟩ := Kd.R_slice HO161.out; subst eo18; have hcz19_0 : w17.cell? ⟨gb153, 0, none⟩ = some (.int .i64 a0_0) := (blk_cell BK153.out 0).trans rfl; have hcz19_1 : w17.cell? ⟨gb153, 1, none⟩ = some (.slice A0_1 l0_1.length c0_1) := (blk_cell BK153.out 1).trans rfl; have hfz19_0 := blk_frozen BK153.out 0; have hfz19_1 := blk_frozen BK153.out 1))
    have n0_ : Aside0 (Kd.R k127 127 (w17.setCell ⟨gb153, 1, none⟩ (.slice Ao18 y159.length co18)) w.heap.size (fun _ => True) (.slice Ao18 y159.length co18) y159) := ⟨by (with_reducible repeat (first | apply Kd.R_alloc | apply Kd.R_drewN | apply Kd.R_drew)); exact Kd.R_mono (Kd.R_far (p := ⟨gb153, 1, none⟩) (Kd.R_types HO161.out BK153.out (by decide)) (fun _ hk => hk.2) (.slice Ao18 y159.length co18)) (fun _ hk => trivial)⟩
    have n1_ : Aside0 ((w17.setCell ⟨gb153, 1, none⟩ (.slice Ao18 y159.length co18)).heap[gb153]? = some (.cells #[.int .i64 a0_0, .slice Ao18 y159.length co18] 43 (0, 0))) := ⟨by (with_reducible repeat (first | refine blk_drewN ?_ _ | refine blk_drew ?_ | refine blk_alloc ?_ _)); refine blk_put (cs := #[.int .i64 a0_0, .slice A0_1 l0_1.length c0_1]) ?_ 1 _ rfl; (with_reducible repeat (first | refine blk_drewN ?_ _ | refine blk_drew ?_ | refine blk_alloc ?_ _)); exact BK153.out⟩
    have n2_ : Aside0 ((w17.setCell ⟨gb153, 1, none⟩ (.slice Ao18 y159.length co18)).heap[gb154]? = some (.cells #[.int .i64 a1_0, .int .i64 a1_1] 36 (0, 0))) := ⟨by (with_reducible repeat (first | refine blk_drewN ?_ _ | refine blk_drew ?_ | refine blk_alloc ?_ _)); refine blk_far ?_ NB154_153.out _; (with_reducible repeat (first | refine blk_drewN ?_ _ | refine blk_drew ?_ | refine blk_alloc ?_ _)); exact BK154.out⟩
    have n3_ : Aside0 ((w17.setCell ⟨gb153, 1, none⟩ (.slice Ao18 y159.length co18)).heap[gb155]? = some (.cells #[.int .i64 0, .slice none 0 0] 43 (0, 0))) := ⟨by (with_reducible repeat (first | refine blk_drewN ?_ _ | refine blk_drew ?_ | refine blk_alloc ?_ _)); refine blk_far ?_ NB155_153.out _; (with_reducible repeat (first | refine blk_drewN ?_ _ | refine blk_drew ?_ | refine blk_alloc ?_ _)); exact BK155.out⟩
    have n4_ : Aside0 (Below w.heap.size w (w17.setCell ⟨gb153, 1, none⟩ (.slice Ao18 y159.length co18))) := ⟨by repeat (first | (with_reducible first | exact HB.out | apply below_alloc | apply pw_below_drewN | apply below_drew1 | refine below_set ?_ GE153.out | refine below_set ?_ GE154.out | refine below_set ?_ GE155.out) | exact HB.out)⟩
    (try clear HO161)
    (try clear BK153)
    (try clear BK154)
    (try clear BK155)
    (try clear HB)
    generalize (w17.setCell ⟨gb153, 1, none⟩ (.slice Ao18 y159.length co18)) = w20 at n0_ n1_ n2_ n3_ n4_ ⊢
    have HO161 := n0_
    have BK153 := n1_
    have BK154 := n2_
    have BK155 := n3_
    have HB := n4_
    clear n0_ n1_ n2_ n3_ n4_
    have n0_ := Aside0.mk (Kd.R_drew HO161.out)
    have n1_ := Aside0.mk (blk_drew BK153.out)
    have n2_ := Aside0.mk (blk_drew BK154.out)
    have n3_ := Aside0.mk (blk_drew BK155.out)
    have n4_ := Aside0.mk (below_drew1 HB.out)
    clear HO161
    clear BK153
    clear BK154
    clear BK155
    clear HB
    have HO161 := n0_
    have BK153 := n1_
    have BK154 := n2_
    have BK155 := n3_
    have HB := n4_
    clear n0_ n1_ n2_ n3_ n4_
    refine start_ (n := 9) (S := fun w' => w'.cell? ⟨gb153, 0, none⟩ = some (.int .i64 a0_0) ∧ w'.cell? ⟨gb153, 1, none⟩ = some (.slice Ao18 y159.length co18) ∧ w'.cell? ⟨gb154, 0, none⟩ = some (.int .i64 a1_0) ∧ w'.cell? ⟨gb154, 1, none⟩ = some (.int .i64 a1_1)) (ds := [8]) #[ff,ff,ff,ff,ff,ff,ff,ff,ff] (by kernel_rfl) rfl rfl ⟨(blk_cell BK153.out 0).trans rfl, (blk_cell BK153.out 1).trans rfl, (blk_cell BK154.out 0).trans rfl, (blk_cell BK154.out 1).trans rfl⟩ (fun hHeld => ?_); refine with_tabW knellref12_turn.tab2 knellref12_turn.bits2 (fun HT_ HW_ => ?_)
    generalize w20.drew = w21 at HO161 BK153 BK154 BK155 HB hHeld ⊢
    refine pure_ (i := 0) (N := some 12) (v := ?_) (a' := ?_) #[tt,ff,ff,ff,ff,ff,ff,ff,ff] rfl rfl (any_of HT_.out (by kernel_rfl)) (fun _ _ _ h => h) (Or.inl ⟨by rfl, ?_⟩) ?_ ?_
    rotate_left
    ·intro w'
     go_simp
     with_reducible rfl
    rotate_left
    ·simp only [Act.put, sQ0, sQ1, sQ2, i64_w]
     rfl
    refine pure_ (i := 5) (N := some 17) (v := ?_) (a' := ?_) #[tt,ff,ff,ff,ff,tt,ff,ff,ff] rfl rfl (any_of HT_.out (by kernel_rfl)) (fun _ _ _ h => h) (Or.inl ⟨by rfl, ?_⟩) ?_ ?_
    rotate_left
    ·intro w'
     go_simp
     with_reducible rfl
    rotate_left
    ·simp only [Act.put, sQ0, sQ1, sQ2, i64_w]
     rfl
    refine take_ (i := 1) (N := some 13) (v := ?_) (a' := ?_) #[tt,tt,ff,ff,ff,tt,ff,ff,ff] rfl rfl (take_ofW HT_.out HW_.out (by kernel_rfl)) (fun _ _ _ h => h) (Or.inl ⟨by rfl, ?_⟩) hHeld ?_ ?_
    rotate_left
    ·rintro w' ⟨s0, s1, s2, s3⟩
     go_simp
     with_reducible rfl
    rotate_left
    ·simp only [Act.put, sQ0, sQ1, sQ2, i64_w]
     rfl
    refine take_ (i := 2) (N := some 14) (v := ?_) (a' := ?_) #[tt,tt,tt,ff,ff,tt,ff,ff,ff] rfl rfl (take_ofW HT_.out HW_.out (by kernel_rfl)) (fun _ _ _ h => h) (Or.inl ⟨by rfl, ?_⟩) hHeld ?_ ?_
    rotate_left
    ·rintro w' ⟨s0, s1, s2, s3⟩
     go_simp
     with_reducible rfl
    rotate_left
    ·simp only [Act.put, sQ0, sQ1, sQ2, i64_w]
     rfl
    refine take_ (i := 3) (N := some 15) (v := ?_) (a' := ?_) #[tt,tt,tt,tt,ff,tt,ff,ff,ff] rfl rfl (take_ofW HT_.out HW_.out (by kernel_rfl)) (fun _ _ _ h => h) (Or.inl ⟨by rfl, ?_⟩) hHeld ?_ ?_
    rotate_left
    ·rintro w' ⟨s0, s1, s2, s3⟩
     go_simp
     with_reducible rfl
    rotate_left
    ·simp only [Act.put, sQ0, sQ1, sQ2, i64_w]
     rfl
    refine one_ (i := 4) (N := some 16) #[tt,tt,tt,tt,tt,tt,ff,ff,ff] rfl rfl (one_of HT_.out (by kernel_rfl)) (by decide) (fun K hK => ?_)
    refine goes_ Try.func68 (by kernel_rfl) rfl #[.agg #[.int .i64 a0_0, .slice Ao18 y159.length co18], .agg #[.int .i64 a1_0, .int .i64 a1_1]] (by rfl) rfl rfl (by (try simp only [List.map_toArray, List.map_cons, List.map_nil]); first | done | rfl | (simp only [List.length_drop, List.length_take]; rfl)) ?_
    with_reducible refine (knellref12_Find.calls k a0_0 _ _ y159 a1_0 a1_1 t162 _ ?side1 ?side2 A5.out).mono ?_
    (case side1 => repeat (first | exact (Kd.R_reads' HO161.out).2.2 | (with_reducible refine Kd.C_alloc ?_ _) | (with_reducible refine Kd.C_drewN ?_ _) | (with_reducible refine Kd.C_drew ?_)))
    (case side2 => exact (Kd.R_reads' HO161.out).2.1)
    rintro e w22 ⟨rfl, hb⟩
    refine ⟨_, rfl, ?_⟩
    have n0_ := Aside0.mk (Kd.R_below (by (with_reducible repeat (first | apply Kd.R_alloc | apply Kd.R_drewN | apply Kd.R_drew)); exact HO161.out) hb)
    have n1_ := Aside0.mk (blk_below (g := gb153) (o := .cells #[.int .i64 a0_0, .slice Ao18 y159.length co18] 43 (0, 0)) (by (with_reducible repeat (first | refine blk_drewN ?_ _ | refine blk_drew ?_ | refine blk_alloc ?_ _)); exact BK153.out) hb)
    have n2_ := Aside0.mk (blk_below (g := gb154) (o := .cells #[.int .i64 a1_0, .int .i64 a1_1] 36 (0, 0)) (by (with_reducible repeat (first | refine blk_drewN ?_ _ | refine blk_drew ?_ | refine blk_alloc ?_ _)); exact BK154.out) hb)
    have n3_ := Aside0.mk (blk_below (g := gb155) (o := .cells #[.int .i64 0, .slice none 0 0] 43 (0, 0)) (by (with_reducible repeat (first | refine blk_drewN ?_ _ | refine blk_drew ?_ | refine blk_alloc ?_ _)); exact BK155.out) hb)
    have n4_ := Aside0.mk (below_step (by repeat (first | (with_reducible first | exact HB.out | apply below_alloc | apply pw_below_drewN | apply below_drew1 | refine below_set ?_ GE153.out | refine below_set ?_ GE154.out | refine below_set ?_ GE155.out) | exact HB.out)) hb)
    clear HO161
    clear BK153
    clear BK154
    clear BK155
    clear HB
    have HO161 := n0_
    have BK153 := n1_
    have BK154 := n2_
    have BK155 := n3_
    have HB := n4_
    clear n0_ n1_ n2_ n3_ n4_
    (try clear hb)
    (try clear hb2)
    (try clear hk)
    (try clear hi)
    have p8 : 0 ≤ (t162 : Int) := of_decide_eq_true (by first | (with_reducible assumption) | assumption)
    have q8 : (t162 : Int) < ((y159.length : Int) : Int) := of_decide_eq_true (by first | (with_reducible assumption) | assumption)
    obtain ⟨go8, co8, eo8, gb8, gl8, cl8, HG8⟩ := Kd.R_form HO161.out (by omega)
    (first | cases eo8 | (injection eo8 with ea_ en_ ec_; (first | subst ea_ | (injection ea_ with ea_; subst ea_)); subst ec_; clear en_))
    have GB8 := Aside0.mk gb8
    have GG8 := Aside0.mk HG8
    clear gb8 gl8 HG8
    obtain ⟨ce8, hcl8, hM8, hcc8, hfr8⟩ := Kd.R_elem HO161.out z127 (t162 : Int) p8 q8
    obtain rfl := k127_openM hM8
    have hx8_0 : World.cell? _ ⟨go8, (t162 : Int).toNat * 4, none⟩ = some (.int .i64 ((rd_T127 y159 t162).f0.f0)) := hcc8 0 _ rfl
    have hx8_1 : World.cell? _ ⟨go8, (t162 : Int).toNat * 4 + 1, none⟩ = some (.int .i64 ((rd_T127 y159 t162).f0.f1)) := hcc8 1 _ rfl
    have hx8_2 : World.cell? _ ⟨go8, (t162 : Int).toNat * 4 + 2, none⟩ = some (.int .i64 ((rd_T127 y159 t162).f1)) := hcc8 2 _ rfl
    have hx8_3 : World.cell? _ ⟨go8, (t162 : Int).toNat * 4 + 3, none⟩ = some (.int .i64 ((rd_T127 y159 t162).f2)) := hcc8 3 _ rfl
    have hf8_0 : World.frozen? _ ⟨go8, (t162 : Int).toNat * 4, none⟩ = false := hfr8 0
    have hf8_1 : World.frozen? _ ⟨go8, (t162 : Int).toNat * 4 + 1, none⟩ = false := hfr8 1
    have hf8_2 : World.frozen? _ ⟨go8, (t162 : Int).toNat * 4 + 2, none⟩ = false := hfr8 2
    have hf8_3 : World.frozen? _ ⟨go8, (t162 : Int).toNat * 4 + 3, none⟩ = false := hfr8 3
    clear hcl8 hcc8 hfr8 hM8
    replace p8 := eq_true p8
    replace q8 := eq_true q8
    obtain ⟨ce23, hcl23, hM23, hcc23, hfr23⟩ := Kd.R_elem HO161.out z127 (t162 : Int) (of_decide_eq_true (by first | (with_reducible assumption) | assumption)) (by have h_ : (t162 : Int) < ((y159.length : Int) : Int) := of_decide_eq_true (by first | (with_reducible assumption) | assumption); first | exact h_ | (have e_ := (Kd.R_reads' HO161.out).1; omega) | simpa using h_)
    obtain rfl := k127_openM hM23
    have HP23 := (Kd.R_seg HO161.out (t162 : Int) (of_decide_eq_true (by first | (with_reducible assumption) | assumption)) (by have h_ : (t162 : Int) < ((y159.length : Int) : Int) := of_decide_eq_true (by first | (with_reducible assumption) | assumption); first | exact h_ | (have e_ := (Kd.R_reads' HO161.out).1; omega) | simpa using h_) (seg := [.int .i64 a2]) (j := 2) hcl23 hcc23 (show 3 ≤ 4 from by decide) (x' := (⟨(⟨(rd_T127 y159 t162).f0.f0, (rd_T127 y159 t162).f0.f1⟩ : S36), a2, (rd_T127 y159 t162).f2⟩ : S127)) (k127_mkM _ _ _ (⟨(⟨(rd_T127 y159 t162).f0.f0, (rd_T127 y159 t162).f0.f1⟩ : S36), a2, (rd_T127 y159 t162).f2⟩ : S127) ) (fun _ hk => hk)).1
    rw [← Ny163.out] at HP23
    have HQ23 := Aside0.mk HP23
    clear hcl23 hcc23 hfr23 hM23 HP23
    refine hK.out _ _ ⟨(blk_cell BK153.out 0).trans rfl, (blk_cell BK153.out 1).trans rfl, (blk_cell BK154.out 0).trans rfl, (blk_cell BK154.out 1).trans rfl⟩ (fun hHeld => ?_)
    clear hK K
    refine norm_ (a' := ?_) ?_ ?_
    rotate_left
    ·show Act.put _ (some 16) _ = _
     simp only [Act.put, sQ0, sQ1, sQ2, i64_w]
     rfl
    refine pure_ (i := 6) (N := some 18) (v := ?_) (a' := ?_) #[tt,tt,tt,tt,tt,tt,tt,ff,ff] rfl rfl (any_of HT_.out (by kernel_rfl)) (fun _ _ _ h => h) (Or.inl ⟨by rfl, ?_⟩) ?_ ?_
    rotate_left
    ·intro w'
     go_simp
     with_reducible rfl
    rotate_left
    ·simp only [Act.put, sQ0, sQ1, sQ2, i64_w]
     rfl
    refine pure_ (i := 7) (N := some 19) (v := ?_) (a' := ?_) #[tt,tt,tt,tt,tt,tt,tt,tt,ff] rfl rfl (any_of HT_.out (by kernel_rfl)) (fun _ _ _ h => h) (Or.inl ⟨by rfl, ?_⟩) ?_ ?_
    rotate_left
    ·intro w'
     go_simp
     with_reducible rfl
    rotate_left
    ·simp only [Act.put, sQ0, sQ1, sQ2, i64_w]
     rfl
    refine last_ (i := 8) (N := none) #[tt,tt,tt,tt,tt,tt,tt,tt,tt] rfl rfl (one_of HT_.out (by kernel_rfl)) (by decide) (fun K hK => ?_)
    refine skip_ (w1 := ?_) (by rfl) rfl ?_ ?_
    rotate_left
    ·go_simp
     rfl
    refine hK.out _ _ ?_
    clear hK K
    refine done_ (done_of HT_.out (by kernel_rfl)) ?_
    have n0_ : Aside0 (Kd.R k127 127 (w22.setCell ⟨go8, (t162 : Int).toNat * 4 + 2, none⟩ (.int .i64 a2)) w.heap.size (fun _ => True) (.slice (some ⟨go8, 0, none⟩) y159.length co18) y163) := ⟨by (with_reducible repeat (first | apply Kd.R_alloc | apply Kd.R_drewN | apply Kd.R_drew)); exact HQ23.out⟩
    have n1_ : Aside0 ((w22.setCell ⟨go8, (t162 : Int).toNat * 4 + 2, none⟩ (.int .i64 a2)).heap[gb153]? = some (.cells #[.int .i64 a0_0, .slice (some ⟨go8, 0, none⟩) y159.length co18] 43 (0, 0))) := ⟨by (with_reducible repeat (first | refine blk_drewN ?_ _ | refine blk_drew ?_ | refine blk_alloc ?_ _)); refine blk_far ?_ (by have h_ := Kd.R_ne HO161.out BK153.out (by decide); intro e_; exact h_ (by rw [e_]; rfl)) _; (with_reducible repeat (first | refine blk_drewN ?_ _ | refine blk_drew ?_ | refine blk_alloc ?_ _)); exact BK153.out⟩
    have n2_ : Aside0 ((w22.setCell ⟨go8, (t162 : Int).toNat * 4 + 2, none⟩ (.int .i64 a2)).heap[gb154]? = some (.cells #[.int .i64 a1_0, .int .i64 a1_1] 36 (0, 0))) := ⟨by (with_reducible repeat (first | refine blk_drewN ?_ _ | refine blk_drew ?_ | refine blk_alloc ?_ _)); refine blk_far ?_ (by have h_ := Kd.R_ne HO161.out BK154.out (by decide); intro e_; exact h_ (by rw [e_]; rfl)) _; (with_reducible repeat (first | refine blk_drewN ?_ _ | refine blk_drew ?_ | refine blk_alloc ?_ _)); exact BK154.out⟩
    have n3_ : Aside0 ((w22.setCell ⟨go8, (t162 : Int).toNat * 4 + 2, none⟩ (.int .i64 a2)).heap[gb155]? = some (.cells #[.int .i64 0, .slice none 0 0] 43 (0, 0))) := ⟨by (with_reducible repeat (first | refine blk_drewN ?_ _ | refine blk_drew ?_ | refine blk_alloc ?_ _)); refine blk_far ?_ (by have h_ := Kd.R_ne HO161.out BK155.out (by decide); intro e_; exact h_ (by rw [e_]; rfl)) _; (with_reducible repeat (first | refine blk_drewN ?_ _ | refine blk_drew ?_ | refine blk_alloc ?_ _)); exact BK155.out⟩
    have n4_ : Aside0 (Below w.heap.size w (w22.setCell ⟨go8, (t162 : Int).toNat * 4 + 2, none⟩ (.int .i64 a2))) := ⟨by repeat (first | (with_reducible first | exact HB.out | apply below_alloc | apply pw_below_drewN | apply below_drew1 | refine below_set ?_ GB8.out | refine below_set ?_ GE153.out | refine below_set ?_ GE154.out | refine below_set ?_ GE155.out) | exact HB.out)⟩
    (try clear HO161)
    (try clear BK153)
    (try clear BK154)
    (try clear BK155)
    (try clear HB)
    generalize (w22.setCell ⟨go8, (t162 : Int).toNat * 4 + 2, none⟩ (.int .i64 a2)) = w24 at n0_ n1_ n2_ n3_ n4_ ⊢
    have HO161 := n0_
    have BK153 := n1_
    have BK154 := n2_
    have BK155 := n3_
    have HB := n4_
    clear n0_ n1_ n2_ n3_ n4_
    have hcz25_0 : w24.cell? ⟨gb153, 0, none⟩ = some (.int .i64 a0_0) := (blk_cell BK153.out 0).trans rfl
    have hcz25_1 : w24.cell? ⟨gb153, 1, none⟩ = some (.slice (some ⟨go8, 0, none⟩) y159.length co18) := (blk_cell BK153.out 1).trans rfl
    have hfz25_0 := blk_frozen BK153.out 0
    have hfz25_1 := blk_frozen BK153.out 1
    have hnb26 := NB155_154.out
    have hnc26 := NB154_155.out
    have hcz27_0 : w24.cell? ⟨gb155, 0, none⟩ = some (.int .i64 0) := (blk_cell BK155.out 0).trans rfl
    have hcz27_1 : w24.cell? ⟨gb155, 1, none⟩ = some (.slice none 0 0) := (blk_cell BK155.out 1).trans rfl
    have hfz27_0 := blk_frozen BK155.out 0
    have hfz27_1 := blk_frozen BK155.out 1
    try go_wp2
    refine bodyPost_ret (results_cell_row rfl _ _ gb155 43 #[.int .i64 a0_0, .slice (some ⟨go8, 0, none⟩) y159.length co18] (0, 0) _ rfl (by (with_reducible repeat (first | refine blk_drewN ?_ _ | refine blk_drew ?_ | refine blk_alloc ?_ _)); refine blk_put (cs := #[.int .i64 a0_0, .slice none 0 0]) ?_ 1 _ rfl; (with_reducible repeat (first | refine blk_drewN ?_ _ | refine blk_drew ?_ | refine blk_alloc ?_ _)); refine blk_put (cs := #[.int .i64 0, .slice none 0 0]) ?_ 0 _ rfl; (with_reducible repeat (first | refine blk_drewN ?_ _ | refine blk_drew ?_ | refine blk_alloc ?_ _)); exact BK155.out) Try.underlying43 rfl (by kernel_rfl)) rfl ?_
    exact ⟨_, by first | rfl | (simp [errW_none, errW_some] <;> rfl) | (simp [*, errW_none, errW_some] <;> rfl), by (with_reducible repeat (first | apply Kd.R_alloc | apply Kd.R_drewN | apply Kd.R_drew)); exact Kd.R_mono (Kd.R_far (p := ⟨gb155, 1, none⟩) (Kd.R_far (p := ⟨gb155, 0, none⟩) (Kd.R_types HO161.out BK155.out (by decide)) (fun _ hk => hk.2) (.int .i64 a0_0)) (fun _ hk => hk.2) (.slice (some ⟨go8, 0, none⟩) y159.length co18)) (fun _ hk => trivial), by repeat (first | (with_reducible first | exact HB.out | apply below_alloc | apply pw_below_drewN | apply below_drew1 | refine below_set ?_ GE153.out | refine below_set ?_ GE154.out | refine below_set ?_ GE155.out) | exact HB.out)⟩
   ·rw [if_neg c7] at H
    exact absurd H (by simp)
  ·rw [if_neg c6] at H
   exact absurd H (by simp)
 ·rw [if_neg c4] at H
  exact absurd H (by simp)
def knellref12_free.l0 : Nat → Int → Int → List (S127) → Int → Int → Option (Bool)
 | 0, _, _, _, _, _ => none
 | k + 1, x5, x165000, x165001, x166000, x166001 => if x5 < (x165001.length : Int) then (if 0 ≤ x5 then (if ((rd_T127 x165001 x5).f0.f0) = x166000 then (if ((rd_T127 x165001 x5).f1) = 1 then (some false) else (if ((rd_T127 x165001 x5).f0.f1) ≥ x166001 then (some false) else (knellref12_free.l0 k (wrap64 (x5 + 1)) x165000 x165001 x166000 x166001))) else (knellref12_free.l0 k (wrap64 (x5 + 1)) x165000 x165001 x166000 x166001)) else (none)) else (some true)
def knellref12_free.f (k : Nat) (a0_0 : Int) (l0_1 : List (S127)) (a1_0 : Int) (a1_1 : Int) : Option (Bool) := knellref12_free.l0 k 0 a0_0 l0_1 a1_0 a1_1
set_option maxHeartbeats 8000000 in
set_option maxRecDepth 100000 in
theorem knellref12_free.calls (k : Nat) (a0_0 : Int) (A0_1 : Option Addr) (c0_1 : Nat) (l0_1 : List (S127)) (a1_0 : Int) (a1_1 : Int) (r : Bool) (w : World) (hr0_1 : Kd.C k127 w A0_1 l0_1.length l0_1) (hc0_1 : l0_1.length ≤ c0_1) (h : knellref12_free.f k a0_0 l0_1 a1_0 a1_1 = some r) :
  Calls Try.prog 80 #[.agg #[.int .i64 a0_0, .slice A0_1 l0_1.length c0_1], .agg #[.int .i64 a1_0, .int .i64 a1_1]] w fun e w' => e = .returned (.bool r) ∧ Below w.heap.size w w' := by
 have hu43 := Try.underlying43
 have hu36 := Try.underlying36
 have HR0_1 := Aside0.mk hr0_1
 have HC0_1 := Aside0.mk hc0_1
 clear hr0_1 hc0_1
 have HB := Aside0.mk (Below.refl w.heap.size w)
 have H : (knellref12_free.l0 k 0 a0_0 l0_1 a1_0 a1_1) = some r := h
 clear h
 have H' := Aside0.mk H
 clear H
 go_enter Try.func80, Try.ntmps80
 go_wp2_with (first | ((with_reducible refine gate_dst (N := 2) rfl ?_); refine box_event ?hg (N := 2) ?hd (cs := #[.int .i64 a0_0, .slice A0_1 l0_1.length c0_1]) (t := 43) ?hr ?_; (case hd => rfl); (case hg => rfl); (case hr => first | (go_simp; done) | (go_simp; rfl)); intro gb164 hg w3 hbox hb; have n0_ := Aside0.mk (below_step (by repeat (first | (with_reducible first | exact HB.out | apply below_alloc | apply pw_below_drewN | apply below_drew1) | exact HB.out)) hb); have n1_ := Aside0.mk (hbox); have n2_ := Aside0.mk ((by rw [hg]; exact (below_size (by repeat (first | (with_reducible first | exact HB.out | apply below_alloc | apply pw_below_drewN | apply below_drew1) | exact HB.out))) : w.heap.size ≤ gb164)); have n3_ := Aside0.mk ((by rw [hg]; exact (below_size (by repeat (first | (with_reducible first | exact HB.out | apply below_alloc | apply pw_below_drewN | apply below_drew1) | exact HB.out))) : w.heap.size ≤ gb164)); clear HB; have HB := n0_; have BK164 := n1_; have GW164 := n2_; have GE164 := n3_; clear n0_ n1_ n2_ n3_; clear hb hbox hg) | ((with_reducible refine gate_dst (N := 3) rfl ?_); refine box_event ?hg (N := 3) ?hd (cs := #[.int .i64 a1_0, .int .i64 a1_1]) (t := 36) ?hr ?_; (case hd => rfl); (case hg => rfl); (case hr => first | (go_simp; done) | (go_simp; rfl)); intro gb165 hg w4 hbox hb; have n0_ := Aside0.mk (blk_below (g := gb164) (o := .cells #[.int .i64 a0_0, .slice A0_1 l0_1.length c0_1] 43 (0, 0)) (by (with_reducible repeat (first | refine blk_drewN ?_ _ | refine blk_drew ?_ | refine blk_alloc ?_ _)); exact BK164.out) hb); have n1_ := Aside0.mk (below_step (by repeat (first | (with_reducible first | exact HB.out | apply below_alloc | apply pw_below_drewN | apply below_drew1 | refine below_set ?_ GE164.out) | exact HB.out)) hb); have n2_ := Aside0.mk (hbox); have n3_ := Aside0.mk ((by rw [hg]; exact (below_size (by repeat (first | (with_reducible first | exact HB.out | apply below_alloc | apply pw_below_drewN | apply below_drew1 | refine below_set ?_ GE164.out) | exact HB.out))) : w.heap.size ≤ gb165)); have n4_ := Aside0.mk ((by rw [hg]; exact (below_size (by repeat (first | (with_reducible first | exact HB.out | apply below_alloc | apply pw_below_drewN | apply below_drew1 | refine below_set ?_ GE164.out) | exact HB.out))) : w.heap.size ≤ gb165)); have n5_ := Aside0.mk ((by rw [hg]; exact Nat.ne_of_lt (blk_lt (g := gb164) (o := .cells #[.int .i64 a0_0, .slice A0_1 l0_1.length c0_1] 43 (0, 0)) (by (with_reducible repeat (first | refine blk_drewN ?_ _ | refine blk_drew ?_ | refine blk_alloc ?_ _)); exact BK164.out)) : gb164 ≠ gb165)); have n6_ := Aside0.mk ((by rw [hg]; exact Nat.ne_of_gt (blk_lt (g := gb164) (o := .cells #[.int .i64 a0_0, .slice A0_1 l0_1.length c0_1] 43 (0, 0)) (by (with_reducible repeat (first | refine blk_drewN ?_ _ | refine blk_drew ?_ | refine blk_alloc ?_ _)); exact BK164.out)) : gb165 ≠ gb164)); clear BK164; clear HB; have BK164 := n0_; have HB := n1_; have BK165 := n2_; have GW165 := n3_; have GE165 := n4_; have NB164_165 := n5_; have NB165_164 := n6_; clear n0_ n1_ n2_ n3_ n4_ n5_ n6_; clear hb hbox hg))
 repeat (go_quiet (first | ((with_reducible refine gate_dst (N := 2) rfl ?_); refine box_event ?hg (N := 2) ?hd (cs := #[.int .i64 a0_0, .slice A0_1 l0_1.length c0_1]) (t := 43) ?hr ?_; (case hd => rfl); (case hg => rfl); (case hr => first | (go_simp; done) | (go_simp; rfl)); intro gb164 hg w3 hbox hb; have n0_ := Aside0.mk (below_step (by repeat (first | (with_reducible first | exact HB.out | apply below_alloc | apply pw_below_drewN | apply below_drew1) | exact HB.out)) hb); have n1_ := Aside0.mk (hbox); have n2_ := Aside0.mk ((by rw [hg]; exact (below_size (by repeat (first | (with_reducible first | exact HB.out | apply below_alloc | apply pw_below_drewN | apply below_drew1) | exact HB.out))) : w.heap.size ≤ gb164)); have n3_ := Aside0.mk ((by rw [hg]; exact (below_size (by repeat (first | (with_reducible first | exact HB.out | apply below_alloc | apply pw_below_drewN | apply below_drew1) | exact HB.out))) : w.heap.size ≤ gb164)); clear HB; have HB := n0_; have BK164 := n1_; have GW164 := n2_; have GE164 := n3_; clear n0_ n1_ n2_ n3_; clear hb hbox hg) | ((with_reducible refine gate_dst (N := 3) rfl ?_); refine box_event ?hg (N := 3) ?hd (cs := #[.int .i64 a1_0, .int .i64 a1_1]) (t := 36) ?hr ?_; (case hd => rfl); (case hg => rfl); (case hr => first | (go_simp; done) | (go_simp; rfl)); intro gb165 hg w4 hbox hb; have n0_ := Aside0.mk (blk_below (g := gb164) (o := .cells #[.int .i64 a0_0, .slice A0_1 l0_1.length c0_1] 43 (0, 0)) (by (with_reducible repeat (first | refine blk_drewN ?_ _ | refine blk_drew ?_ | refine blk_alloc ?_ _)); exact BK164.out) hb); have n1_ := Aside0.mk (below_step (by repeat (first | (with_reducible first | exact HB.out | apply below_alloc | apply pw_below_drewN | apply below_drew1 | refine below_set ?_ GE164.out) | exact HB.out)) hb); have n2_ := Aside0.mk (hbox); have n3_ := Aside0.mk ((by rw [hg]; exact (below_size (by repeat (first | (with_reducible first | exact HB.out | apply below_alloc | apply pw_below_drewN | apply below_drew1 | refine below_set ?_ GE164.out) | exact HB.out))) : w.heap.size ≤ gb165)); have n4_ := Aside0.mk ((by rw [hg]; exact (below_size (by repeat (first | (with_reducible first | exact HB.out | apply below_alloc | apply pw_below_drewN | apply below_drew1 | refine below_set ?_ GE164.out) | exact HB.out))) : w.heap.size ≤ gb165)); have n5_ := Aside0.mk ((by rw [hg]; exact Nat.ne_of_lt (blk_lt (g := gb164) (o := .cells #[.int .i64 a0_0, .slice A0_1 l0_1.length c0_1] 43 (0, 0)) (by (with_reducible repeat (first | refine blk_drewN ?_ _ | refine blk_drew ?_ | refine blk_alloc ?_ _)); exact BK164.out)) : gb164 ≠ gb165)); have n6_ := Aside0.mk ((by rw [hg]; exact Nat.ne_of_gt (blk_lt (g := gb164) (o := .cells #[.int .i64 a0_0, .slice A0_1 l0_1.length c0_1] 43 (0, 0)) (by (with_reducible repeat (first | refine blk_drewN ?_ _ | refine blk_drew ?_ | refine blk_alloc ?_ _)); exact BK164.out)) : gb165 ≠ gb164)); clear BK164; clear HB; have BK164 := n0_; have HB := n1_; have BK165 := n2_; have GW165 := n3_; have GE165 := n4_; have NB164_165 := n5_; have NB165_164 := n6_; clear n0_ n1_ n2_ n3_ n4_ n5_ n6_; clear hb hbox hg)); try go_wp2_with (first | ((with_reducible refine gate_dst (N := 2) rfl ?_); refine box_event ?hg (N := 2) ?hd (cs := #[.int .i64 a0_0, .slice A0_1 l0_1.length c0_1]) (t := 43) ?hr ?_; (case hd => rfl); (case hg => rfl); (case hr => first | (go_simp; done) | (go_simp; rfl)); intro gb164 hg w3 hbox hb; have n0_ := Aside0.mk (below_step (by repeat (first | (with_reducible first | exact HB.out | apply below_alloc | apply pw_below_drewN | apply below_drew1) | exact HB.out)) hb); have n1_ := Aside0.mk (hbox); have n2_ := Aside0.mk ((by rw [hg]; exact (below_size (by repeat (first | (with_reducible first | exact HB.out | apply below_alloc | apply pw_below_drewN | apply below_drew1) | exact HB.out))) : w.heap.size ≤ gb164)); have n3_ := Aside0.mk ((by rw [hg]; exact (below_size (by repeat (first | (with_reducible first | exact HB.out | apply below_alloc | apply pw_below_drewN | apply below_drew1) | exact HB.out))) : w.heap.size ≤ gb164)); clear HB; have HB := n0_; have BK164 := n1_; have GW164 := n2_; have GE164 := n3_; clear n0_ n1_ n2_ n3_; clear hb hbox hg) | ((with_reducible refine gate_dst (N := 3) rfl ?_); refine box_event ?hg (N := 3) ?hd (cs := #[.int .i64 a1_0, .int .i64 a1_1]) (t := 36) ?hr ?_; (case hd => rfl); (case hg => rfl); (case hr => first | (go_simp; done) | (go_simp; rfl)); intro gb165 hg w4 hbox hb; have n0_ := Aside0.mk (blk_below (g := gb164) (o := .cells #[.int .i64 a0_0, .slice A0_1 l0_1.length c0_1] 43 (0, 0)) (by (with_reducible repeat (first | refine blk_drewN ?_ _ | refine blk_drew ?_ | refine blk_alloc ?_ _)); exact BK164.out) hb); have n1_ := Aside0.mk (below_step (by repeat (first | (with_reducible first | exact HB.out | apply below_alloc | apply pw_below_drewN | apply below_drew1 | refine below_set ?_ GE164.out) | exact HB.out)) hb); have n2_ := Aside0.mk (hbox); have n3_ := Aside0.mk ((by rw [hg]; exact (below_size (by repeat (first | (with_reducible first | exact HB.out | apply below_alloc | apply pw_below_drewN | apply below_drew1 | refine below_set ?_ GE164.out) | exact HB.out))) : w.heap.size ≤ gb165)); have n4_ := Aside0.mk ((by rw [hg]; exact (below_size (by repeat (first | (with_reducible first | exact HB.out | apply below_alloc | apply pw_below_drewN | apply below_drew1 | refine below_set ?_ GE164.out) | exact HB.out))) : w.heap.size ≤ gb165)); have n5_ := Aside0.mk ((by rw [hg]; exact Nat.ne_of_lt (blk_lt (g := gb164) (o := .cells #[.int .i64 a0_0, .slice A0_1 l0_1.length c0_1] 43 (0, 0)) (by (with_reducible repeat (first | refine blk_drewN ?_ _ | refine blk_drew ?_ | refine blk_alloc ?_ _)); exact BK164.out)) : gb164 ≠ gb165)); have n6_ := Aside0.mk ((by rw [hg]; exact Nat.ne_of_gt (blk_lt (g := gb164) (o := .cells #[.int .i64 a0_0, .slice A0_1 l0_1.length c0_1] 43 (0, 0)) (by (with_reducible repeat (first | refine blk_drewN ?_ _ | refine blk_drew ?_ | refine blk_alloc ?_ _)); exact BK164.out)) : gb165 ≠ gb164)); clear BK164; clear HB; have BK164 := n0_; have HB := n1_; have BK165 := n2_; have GW165 := n3_; have GE165 := n4_; have NB164_165 := n5_; have NB165_164 := n6_; clear n0_ n1_ n2_ n3_ n4_ n5_ n6_; clear hb hbox hg)))
 go_loopg [5] k (fun kq v5 w' => ∃ (x5_1 : Int), v5 = .int .i64 x5_1 ∧ Aside0 (knellref12_free.l0 kq x5_1 a0_0 l0_1 a1_0 a1_1 = some r) ∧ Aside0 (kq ≤ k) ∧ Aside0 (w'.heap[gb164]? = some (.cells #[.int .i64 a0_0, (.slice A0_1 l0_1.length c0_1)] 43 (0, 0))) ∧ Aside0 (w'.heap[gb165]? = some (.cells #[.int .i64 a1_0, .int .i64 a1_1] 36 (0, 0))) ∧ Aside0 (Below w.heap.size w w'))
 case atStart => exact ⟨(0), (by first | rfl | (simp; done) | (simp [*]; done)), H', ⟨Nat.le_refl _⟩, ⟨by (with_reducible repeat (first | refine blk_drewN ?_ _ | refine blk_drew ?_ | refine blk_alloc ?_ _)); exact BK164.out⟩, ⟨by (with_reducible repeat (first | refine blk_drewN ?_ _ | refine blk_drew ?_ | refine blk_alloc ?_ _)); exact BK165.out⟩, ⟨by repeat (first | (with_reducible first | exact HB.out | apply below_alloc | apply pw_below_drewN | apply below_drew1 | refine below_set ?_ GE164.out | refine below_set ?_ GE165.out) | exact HB.out)⟩⟩
 case round =>
  clear H'
  try clear p2
  obtain ⟨x5_1, rfl, HA, HK1, BK164, BK165, HB⟩ := hrel
  cases gk with
  | zero => exact absurd HA.out (by simp [knellref12_free.l0])
  | succ k1 =>
   have H := HA.out
   clear HA
   simp only [knellref12_free.l0] at H
   by_cases c5 : x5_1 < (l0_1.length : Int)
   ·rw [if_pos c5] at H
    have c5b0 : decide (x5_1 < (l0_1.length : Int)) = true := decide_eq_true c5
    clear c5
    by_cases c6 : 0 ≤ x5_1
    ·rw [if_pos c6] at H
     have c6b0 : decide (0 ≤ x5_1) = true := decide_eq_true c6
     clear c6
     by_cases c7 : ((rd_T127 l0_1 x5_1).f0.f0) = a1_0
     ·rw [if_pos c7] at H
      have c7b0 : (((rd_T127 l0_1 x5_1).f0.f0) == a1_0) = true := beq_iff_eq.mpr c7
      have c7b1 : (((rd_T127 l0_1 x5_1).f0.f0) != a1_0) = false := bne_eq_false_iff_eq.mpr c7
      clear c7
      by_cases c8 : ((rd_T127 l0_1 x5_1).f1) = 1
      ·rw [if_pos c8] at H
       have c8b0 : (((rd_T127 l0_1 x5_1).f1) == 1) = true := beq_iff_eq.mpr c8
       have c8b1 : (((rd_T127 l0_1 x5_1).f1) != 1) = false := bne_eq_false_iff_eq.mpr c8
       clear c8
       obtain rfl := Option.some.inj H
       have hnb9 := NB164_165.out
       have hnc9 := NB165_164.out
       have hcz10_0 : wr.cell? ⟨gb164, 0, none⟩ = some (.int .i64 a0_0) := (blk_cell BK164.out 0).trans rfl
       have hcz10_1 : wr.cell? ⟨gb164, 1, none⟩ = some (.slice A0_1 l0_1.length c0_1) := (blk_cell BK164.out 1).trans rfl
       have hfz10_0 := blk_frozen BK164.out 0
       have hfz10_1 := blk_frozen BK164.out 1
       have p166 : 0 ≤ (x5_1 : Int) := of_decide_eq_true (by first | (with_reducible assumption) | assumption)
       have q166 : x5_1 < (l0_1.length : Int) := of_decide_eq_true (by first | (with_reducible assumption) | assumption)
       obtain ⟨ad166, e166, hx166_0, hx166_1, hx166_2, hx166_3⟩ := at_T127 HR0_1.out x5_1 p166 q166
       cases e166
       replace hx166_0 := (HB.out.cell (World.block_lt_of_cell? w _ hx166_0)).trans hx166_0
       replace hx166_1 := (HB.out.cell (World.block_lt_of_cell? w _ hx166_1)).trans hx166_1
       replace hx166_2 := (HB.out.cell (World.block_lt_of_cell? w _ hx166_2)).trans hx166_2
       replace hx166_3 := (HB.out.cell (World.block_lt_of_cell? w _ hx166_3)).trans hx166_3
       replace p166 := eq_true p166
       replace q166 := eq_true q166
       have hcz11_0 : wr.cell? ⟨gb165, 0, none⟩ = some (.int .i64 a1_0) := (blk_cell BK165.out 0).trans rfl
       have hcz11_1 : wr.cell? ⟨gb165, 1, none⟩ = some (.int .i64 a1_1) := (blk_cell BK165.out 1).trans rfl
       have hfz11_0 := blk_frozen BK165.out 0
       have hfz11_1 := blk_frozen BK165.out 1
       have p167 : 0 ≤ (x5_1 : Int) := of_decide_eq_true (by first | (with_reducible assumption) | assumption)
       have q167 : x5_1 < (l0_1.length : Int) := of_decide_eq_true (by first | (with_reducible assumption) | assumption)
       obtain ⟨ad167, e167, hx167_0, hx167_1, hx167_2, hx167_3⟩ := at_T127 HR0_1.out x5_1 p167 q167
       obtain rfl : ad166 = ad167 := (by injection e167)
       replace hx167_0 := (HB.out.cell (World.block_lt_of_cell? w _ hx167_0)).trans hx167_0
       replace hx167_1 := (HB.out.cell (World.block_lt_of_cell? w _ hx167_1)).trans hx167_1
       replace hx167_2 := (HB.out.cell (World.block_lt_of_cell? w _ hx167_2)).trans hx167_2
       replace hx167_3 := (HB.out.cell (World.block_lt_of_cell? w _ hx167_3)).trans hx167_3
       replace p167 := eq_true p167
       replace q167 := eq_true q167
       go_wp2
       repeat (go_quiet (fail); try go_wp2)
       go_ret
       exact ⟨by first | rfl | (simp [errW_none, errW_some] <;> rfl) | (simp [*, errW_none, errW_some] <;> rfl), by repeat (first | (with_reducible first | exact HB.out | apply below_alloc | apply pw_below_drewN | apply below_drew1 | refine below_set ?_ GE164.out | refine below_set ?_ GE165.out) | exact HB.out)⟩
      ·rw [if_neg c8] at H
       have c8b0 : (((rd_T127 l0_1 x5_1).f1) == 1) = false := beq_eq_false_iff_ne.mpr c8
       have c8b1 : (((rd_T127 l0_1 x5_1).f1) != 1) = true := bne_iff_ne.mpr c8
       by_cases c12 : ((rd_T127 l0_1 x5_1).f0.f1) ≥ a1_1
       ·rw [if_pos c12] at H
        have c12b0 : decide (a1_1 ≤ ((rd_T127 l0_1 x5_1).f0.f1)) = true := decide_eq_true c12
        clear c12
        obtain rfl := Option.some.inj H
        have hnb13 := NB164_165.out
        have hnc13 := NB165_164.out
        have hcz14_0 : wr.cell? ⟨gb164, 0, none⟩ = some (.int .i64 a0_0) := (blk_cell BK164.out 0).trans rfl
        have hcz14_1 : wr.cell? ⟨gb164, 1, none⟩ = some (.slice A0_1 l0_1.length c0_1) := (blk_cell BK164.out 1).trans rfl
        have hfz14_0 := blk_frozen BK164.out 0
        have hfz14_1 := blk_frozen BK164.out 1
        have p166 : 0 ≤ (x5_1 : Int) := of_decide_eq_true (by first | (with_reducible assumption) | assumption)
        have q166 : x5_1 < (l0_1.length : Int) := of_decide_eq_true (by first | (with_reducible assumption) | assumption)
        obtain ⟨ad166, e166, hx166_0, hx166_1, hx166_2, hx166_3⟩ := at_T127 HR0_1.out x5_1 p166 q166
        cases e166
        replace hx166_0 := (HB.out.cell (World.block_lt_of_cell? w _ hx166_0)).trans hx166_0
        replace hx166_1 := (HB.out.cell (World.block_lt_of_cell? w _ hx166_1)).trans hx166_1
        replace hx166_2 := (HB.out.cell (World.block_lt_of_cell? w _ hx166_2)).trans hx166_2
        replace hx166_3 := (HB.out.cell (World.block_lt_of_cell? w _ hx166_3)).trans hx166_3
        replace p166 := eq_true p166
        replace q166 := eq_true q166
        have hcz15_0 : wr.cell? ⟨gb165, 0, none⟩ = some (.int .i64 a1_0) := (blk_cell BK165.out 0).trans rfl
        have hcz15_1 : wr.cell? ⟨gb165, 1, none⟩ = some (.int .i64 a1_1) := (blk_cell BK165.out 1).trans rfl
        have hfz15_0 := blk_frozen BK165.out 0
        have hfz15_1 := blk_frozen BK165.out 1
        have p167 : 0 ≤ (x5_1 : Int) := of_decide_eq_true (by first | (with_reducible assumption) | assumption)
        have q167 : x5_1 < (l0_1.length : Int) := of_decide_eq_true (by first | (with_reducible assumption) | assumption)
        obtain ⟨ad167, e167, hx167_0, hx167_1, hx167_2, hx167_3⟩ := at_T127 HR0_1.out x5_1 p167 q167
        obtain rfl : ad166 = ad167 := (by injection e167)
        replace hx167_0 := (HB.out.cell (World.block_lt_of_cell? w _ hx167_0)).trans hx167_0
        replace hx167_1 := (HB.out.cell (World.block_lt_of_cell? w _ hx167_1)).trans hx167_1
        replace hx167_2 := (HB.out.cell (World.block_lt_of_cell? w _ hx167_2)).trans hx167_2
        replace hx167_3 := (HB.out.cell (World.block_lt_of_cell? w _ hx167_3)).trans hx167_3
        replace p167 := eq_true p167
        replace q167 := eq_true q167
        have p168 : 0 ≤ (x5_1 : Int) := of_decide_eq_true (by first | (with_reducible assumption) | assumption)
        have q168 : x5_1 < (l0_1.length : Int) := of_decide_eq_true (by first | (with_reducible assumption) | assumption)
        obtain ⟨ad168, e168, hx168_0, hx168_1, hx168_2, hx168_3⟩ := at_T127 HR0_1.out x5_1 p168 q168
        obtain rfl : ad166 = ad168 := (by injection e168)
        replace hx168_0 := (HB.out.cell (World.block_lt_of_cell? w _ hx168_0)).trans hx168_0
        replace hx168_1 := (HB.out.cell (World.block_lt_of_cell? w _ hx168_1)).trans hx168_1
        replace hx168_2 := (HB.out.cell (World.block_lt_of_cell? w _ hx168_2)).trans hx168_2
        replace hx168_3 := (HB.out.cell (World.block_lt_of_cell? w _ hx168_3)).trans hx168_3
        replace p168 := eq_true p168
        replace q168 := eq_true q168
        go_wp2
        repeat (go_quiet (fail); try go_wp2)
        go_ret
        exact ⟨by first | rfl | (simp [errW_none, errW_some] <;> rfl) | (simp [*, errW_none, errW_some] <;> rfl), by repeat (first | (with_reducible first | exact HB.out | apply below_alloc | apply pw_below_drewN | apply below_drew1 | refine below_set ?_ GE164.out | refine below_set ?_ GE165.out) | exact HB.out)⟩
       ·rw [if_neg c12] at H
        have c12b0 : decide (a1_1 ≤ ((rd_T127 l0_1 x5_1).f0.f1)) = false := decide_eq_false c12
        clear c12
        have H' := Aside0.mk H
        clear H
        have hnb16 := NB164_165.out
        have hnc16 := NB165_164.out
        have hcz17_0 : wr.cell? ⟨gb164, 0, none⟩ = some (.int .i64 a0_0) := (blk_cell BK164.out 0).trans rfl
        have hcz17_1 : wr.cell? ⟨gb164, 1, none⟩ = some (.slice A0_1 l0_1.length c0_1) := (blk_cell BK164.out 1).trans rfl
        have hfz17_0 := blk_frozen BK164.out 0
        have hfz17_1 := blk_frozen BK164.out 1
        have p166 : 0 ≤ (x5_1 : Int) := of_decide_eq_true (by first | (with_reducible assumption) | assumption)
        have q166 : x5_1 < (l0_1.length : Int) := of_decide_eq_true (by first | (with_reducible assumption) | assumption)
        obtain ⟨ad166, e166, hx166_0, hx166_1, hx166_2, hx166_3⟩ := at_T127 HR0_1.out x5_1 p166 q166
        cases e166
        replace hx166_0 := (HB.out.cell (World.block_lt_of_cell? w _ hx166_0)).trans hx166_0
        replace hx166_1 := (HB.out.cell (World.block_lt_of_cell? w _ hx166_1)).trans hx166_1
        replace hx166_2 := (HB.out.cell (World.block_lt_of_cell? w _ hx166_2)).trans hx166_2
        replace hx166_3 := (HB.out.cell (World.block_lt_of_cell? w _ hx166_3)).trans hx166_3
        replace p166 := eq_true p166
        replace q166 := eq_true q166
        have hcz18_0 : wr.cell? ⟨gb165, 0, none⟩ = some (.int .i64 a1_0) := (blk_cell BK165.out 0).trans rfl
        have hcz18_1 : wr.cell? ⟨gb165, 1, none⟩ = some (.int .i64 a1_1) := (blk_cell BK165.out 1).trans rfl
        have hfz18_0 := blk_frozen BK165.out 0
        have hfz18_1 := blk_frozen BK165.out 1
        have p167 : 0 ≤ (x5_1 : Int) := of_decide_eq_true (by first | (with_reducible assumption) | assumption)
        have q167 : x5_1 < (l0_1.length : Int) := of_decide_eq_true (by first | (with_reducible assumption) | assumption)
        obtain ⟨ad167, e167, hx167_0, hx167_1, hx167_2, hx167_3⟩ := at_T127 HR0_1.out x5_1 p167 q167
        obtain rfl : ad166 = ad167 := (by injection e167)
        replace hx167_0 := (HB.out.cell (World.block_lt_of_cell? w _ hx167_0)).trans hx167_0
        replace hx167_1 := (HB.out.cell (World.block_lt_of_cell? w _ hx167_1)).trans hx167_1
        replace hx167_2 := (HB.out.cell (World.block_lt_of_cell? w _ hx167_2)).trans hx167_2
        replace hx167_3 := (HB.out.cell (World.block_lt_of_cell? w _ hx167_3)).trans hx167_3
        replace p167 := eq_true p167
        replace q167 := eq_true q167
        have p168 : 0 ≤ (x5_1 : Int) := of_decide_eq_true (by first | (with_reducible assumption) | assumption)
        have q168 : x5_1 < (l0_1.length : Int) := of_decide_eq_true (by first | (with_reducible assumption) | assumption)
        obtain ⟨ad168, e168, hx168_0, hx168_1, hx168_2, hx168_3⟩ := at_T127 HR0_1.out x5_1 p168 q168
        obtain rfl : ad166 = ad168 := (by injection e168)
        replace hx168_0 := (HB.out.cell (World.block_lt_of_cell? w _ hx168_0)).trans hx168_0
        replace hx168_1 := (HB.out.cell (World.block_lt_of_cell? w _ hx168_1)).trans hx168_1
        replace hx168_2 := (HB.out.cell (World.block_lt_of_cell? w _ hx168_2)).trans hx168_2
        replace hx168_3 := (HB.out.cell (World.block_lt_of_cell? w _ hx168_3)).trans hx168_3
        replace p168 := eq_true p168
        replace q168 := eq_true q168
        go_wp2
        repeat (go_quiet (fail); try go_wp2)
        go_roundg k1
        case measure => have := HK1.out; omega
        case rel => exact ⟨(wrap64 (x5_1 + 1)), (by first | rfl | (simp; done) | (simp [*]; done)), H', ⟨by have := HK1.out; omega⟩, ⟨by (with_reducible repeat (first | refine blk_drewN ?_ _ | refine blk_drew ?_ | refine blk_alloc ?_ _)); exact BK164.out⟩, ⟨by (with_reducible repeat (first | refine blk_drewN ?_ _ | refine blk_drew ?_ | refine blk_alloc ?_ _)); exact BK165.out⟩, ⟨by repeat (first | (with_reducible first | exact HB.out | apply below_alloc | apply pw_below_drewN | apply below_drew1 | refine below_set ?_ GE164.out | refine below_set ?_ GE165.out) | exact HB.out)⟩⟩
     ·rw [if_neg c7] at H
      have c7b0 : (((rd_T127 l0_1 x5_1).f0.f0) == a1_0) = false := beq_eq_false_iff_ne.mpr c7
      have c7b1 : (((rd_T127 l0_1 x5_1).f0.f0) != a1_0) = true := bne_iff_ne.mpr c7
      have H' := Aside0.mk H
      clear H
      have hnb19 := NB164_165.out
      have hnc19 := NB165_164.out
      have hcz20_0 : wr.cell? ⟨gb164, 0, none⟩ = some (.int .i64 a0_0) := (blk_cell BK164.out 0).trans rfl
      have hcz20_1 : wr.cell? ⟨gb164, 1, none⟩ = some (.slice A0_1 l0_1.length c0_1) := (blk_cell BK164.out 1).trans rfl
      have hfz20_0 := blk_frozen BK164.out 0
      have hfz20_1 := blk_frozen BK164.out 1
      have p166 : 0 ≤ (x5_1 : Int) := of_decide_eq_true (by first | (with_reducible assumption) | assumption)
      have q166 : x5_1 < (l0_1.length : Int) := of_decide_eq_true (by first | (with_reducible assumption) | assumption)
      obtain ⟨ad166, e166, hx166_0, hx166_1, hx166_2, hx166_3⟩ := at_T127 HR0_1.out x5_1 p166 q166
      cases e166
      replace hx166_0 := (HB.out.cell (World.block_lt_of_cell? w _ hx166_0)).trans hx166_0
      replace hx166_1 := (HB.out.cell (World.block_lt_of_cell? w _ hx166_1)).trans hx166_1
      replace hx166_2 := (HB.out.cell (World.block_lt_of_cell? w _ hx166_2)).trans hx166_2
      replace hx166_3 := (HB.out.cell (World.block_lt_of_cell? w _ hx166_3)).trans hx166_3
      replace p166 := eq_true p166
      replace q166 := eq_true q166
      have hcz21_0 : wr.cell? ⟨gb165, 0, none⟩ = some (.int .i64 a1_0) := (blk_cell BK165.out 0).trans rfl
      have hcz21_1 : wr.cell? ⟨gb165, 1, none⟩ = some (.int .i64 a1_1) := (blk_cell BK165.out 1).trans rfl
      have hfz21_0 := blk_frozen BK165.out 0
      have hfz21_1 := blk_frozen BK165.out 1
      go_wp2
      repeat (go_quiet (fail); try go_wp2)
      go_roundg k1
      case measure => have := HK1.out; omega
      case rel => exact ⟨(wrap64 (x5_1 + 1)), (by first | rfl | (simp; done) | (simp [*]; done)), H', ⟨by have := HK1.out; omega⟩, ⟨by (with_reducible repeat (first | refine blk_drewN ?_ _ | refine blk_drew ?_ | refine blk_alloc ?_ _)); exact BK164.out⟩, ⟨by (with_reducible repeat (first | refine blk_drewN ?_ _ | refine blk_drew ?_ | refine blk_alloc ?_ _)); exact BK165.out⟩, ⟨by repeat (first | (with_reducible first | exact HB.out | apply below_alloc | apply pw_below_drewN | apply below_drew1 | refine below_set ?_ GE164.out | refine below_set ?_ GE165.out) | exact HB.out)⟩⟩
    ·rw [if_neg c6] at H
     exact absurd H (by simp)
   ·rw [if_neg c5] at H
    have c5b0 : decide (x5_1 < (l0_1.length : Int)) = false := decide_eq_false c5
    clear c5
    obtain rfl := Option.some.inj H
    have hnb22 := NB164_165.out
    have hnc22 := NB165_164.out
    have hcz23_0 : wr.cell? ⟨gb164, 0, none⟩ = some (.int .i64 a0_0) := (blk_cell BK164.out 0).trans rfl
    have hcz23_1 : wr.cell? ⟨gb164, 1, none⟩ = some (.slice A0_1 l0_1.length c0_1) := (blk_cell BK164.out 1).trans rfl
    have hfz23_0 := blk_frozen BK164.out 0
    have hfz23_1 := blk_frozen BK164.out 1
    go_wp2
    repeat (go_quiet (fail); try go_wp2)
    go_ret
    exact ⟨by first | rfl | (simp [errW_none, errW_some] <;> rfl) | (simp [*, errW_none, errW_some] <;> rfl), by repeat (first | (with_reducible first | exact HB.out | apply below_alloc | apply pw_below_drewN | apply below_drew1 | refine below_set ?_ GE164.out | refine below_set ?_ GE165.out) | exact HB.out)⟩
end Go.Proofs.Ythniclbmpeklmaa.KJf
end
section
namespace Go.Proofs.Ythniclbmpeklmaa.KJf
open Go.RowKit Go.Proofs.YthniclbmpeklmaaW.PrintWords Go.Proofs.YthniclbmpeklmaaW.PrintLast Go.Proofs.YthniclbmpeklmaaW.PrintMore
attribute [local go_sem] max2_int min2_int max_two min_two max_three min_three max_four min_four   -- for this text's walks alone
set_option linter.unusedVariables false
set_option linter.unusedSimpArgs false
def knellref12_arm.f (a0_0 : Int) (l0_1 : List (S127)) (a1_0 : Int) (a1_1 : Int) (a2 : Int) : Option (Int × (List (S127))) := (some (([] : List (S127)) : List (S127))).bind fun y172 => (if y172.length + l0_1.length < 4398046511104 then ((some (y172 ++ l0_1 : List (S127))).bind fun y175 => ((some (([(⟨(⟨a1_0, a1_1⟩ : S36), 1, a2⟩ : S127)] : List (S127)) : List (S127))).bind fun y178 => (if y175.length + y178.length < 4398046511104 then (some (a0_0, (y175 ++ y178))) else (none)))) else (none))
def knellref12_arm.T1 : Bool × List (List Nat × List Nat) := (true, [([], []), ([], []), ([1], [1]), ([0, 2], [0, 2]), ([], []), ([], []), ([4, 5], [4, 5]), ([6], [6]), ([3, 7, 3], [3, 7]), ([0, 1, 2, 3, 4, 5, 6, 7, 8], []), ([9, 8, 8, 0, 1, 2, 3, 4, 5, 6, 7, 8], [8, 9])])
def knellref12_arm.B1 : List Nat := [0, 0, 2, 7, 0, 0, 48, 112, 255, 511, 1023]
theorem knellref12_arm.tab1 : rtab .any (opsOf Try.f81 1) = knellref12_arm.T1 := by kernel_rfl
theorem knellref12_arm.bits1 : waitsOk knellref12_arm.T1.2 knellref12_arm.B1 = true := by kernel_rfl
set_option maxHeartbeats 8000000 in
set_option maxRecDepth 100000 in
theorem knellref12_arm.calls (a0_0 : Int) (A0_1 : Option Addr) (c0_1 : Nat) (l0_1 : List (S127)) (a1_0 : Int) (a1_1 : Int) (a2 : Int) (r1 : Int) (r2 : List (S127)) (w : World) (hr0_1 : Kd.C k127 w A0_1 l0_1.length l0_1) (hc0_1 : l0_1.length ≤ c0_1) (h : knellref12_arm.f a0_0 l0_1 a1_0 a1_1 a2 = some (r1, r2)) :
  Calls Try.prog 81 #[.agg #[.int .i64 a0_0, .slice A0_1 l0_1.length c0_1], .agg #[.int .i64 a1_0, .int .i64 a1_1], .int .i64 a2] w fun e w' => ∃ v1_ : Value, e = .returned (.agg #[.int .i64 r1, v1_]) ∧ Kd.R k127 127 w' w.heap.size (fun _ => True) v1_ r2 ∧ Below w.heap.size w w' := by
 have hu43 := Try.underlying43
 have hu36 := Try.underlying36
 have hu127 := Try.underlying127
 have HR0_1 := Aside0.mk hr0_1
 have HC0_1 := Aside0.mk hc0_1
 clear hr0_1 hc0_1
 have HB := Aside0.mk (Below.refl w.heap.size w)
 have H : ((some (([] : List (S127)) : List (S127))).bind fun y172 => (if y172.length + l0_1.length < 4398046511104 then ((some (y172 ++ l0_1 : List (S127))).bind fun y175 => ((some (([(⟨(⟨a1_0, a1_1⟩ : S36), 1, a2⟩ : S127)] : List (S127)) : List (S127))).bind fun y178 => (if y175.length + y178.length < 4398046511104 then (some (a0_0, (y175 ++ y178))) else (none)))) else (none))) = some (r1, r2) := h
 clear h
 obtain ⟨y172, hy172⟩ : ∃ y_ : List (S127), y_ = (([] : List (S127))) := ⟨_, rfl⟩
 replace H : (if y172.length + l0_1.length < 4398046511104 then ((some (y172 ++ l0_1 : List (S127))).bind fun y175 => ((some (([(⟨(⟨a1_0, a1_1⟩ : S36), 1, a2⟩ : S127)] : List (S127)) : List (S127))).bind fun y178 => (if y175.length + y178.length < 4398046511104 then (some (a0_0, (y175 ++ y178))) else (none)))) else (none)) = some (r1, r2) := by first | (rw [hy172]; with_reducible exact H) | (have H2_ := (Option.bind_some _ _).symm.trans H; rw [hy172]; with_reducible exact H2_) | (have H2_ := (Option.bind_some _ _).symm.trans H; with_reducible exact H2_) | with_reducible exact H | (rw [hy172]; exact H) | exact H
 have Ny172 := Aside0.mk hy172
 clear hy172
 by_cases c4 : y172.length + l0_1.length < 4398046511104
 ·rw [if_pos c4] at H
  have LMc4 := Aside0.mk c4
  clear c4
  obtain ⟨y175, hy175⟩ : ∃ y_ : List (S127), y_ = (y172 ++ l0_1) := ⟨_, rfl⟩
  replace H : ((some (([(⟨(⟨a1_0, a1_1⟩ : S36), 1, a2⟩ : S127)] : List (S127)) : List (S127))).bind fun y178 => (if y175.length + y178.length < 4398046511104 then (some (a0_0, (y175 ++ y178))) else (none))) = some (r1, r2) := by first | (rw [hy175]; with_reducible exact H) | (have H2_ := (Option.bind_some _ _).symm.trans H; rw [hy175]; with_reducible exact H2_) | (have H2_ := (Option.bind_some _ _).symm.trans H; with_reducible exact H2_) | with_reducible exact H | (rw [hy175]; exact H) | exact H
  have Ny175 := Aside0.mk hy175
  clear hy175
  obtain ⟨y178, hy178⟩ : ∃ y_ : List (S127), y_ = (([(⟨(⟨a1_0, a1_1⟩ : S36), 1, a2⟩ : S127)] : List (S127))) := ⟨_, rfl⟩
  replace H : (if y175.length + y178.length < 4398046511104 then (some (a0_0, (y175 ++ y178))) else (none)) = some (r1, r2) := by first | (rw [hy178]; with_reducible exact H) | (have H2_ := (Option.bind_some _ _).symm.trans H; rw [hy178]; with_reducible exact H2_) | (have H2_ := (Option.bind_some _ _).symm.trans H; with_reducible exact H2_) | with_reducible exact H | (rw [hy178]; exact H) | exact H
  have Ny178 := Aside0.mk hy178
  clear hy178
  by_cases c5 : y175.length + y178.length < 4398046511104
  ·rw [if_pos c5] at H
   have LMc5 := Aside0.mk c5
   clear c5
   obtain ⟨y181, hy181⟩ : ∃ y_ : List (S127), y_ = (y175 ++ y178) := ⟨_, rfl⟩
   replace H : (some (a0_0, y181)) = some (r1, r2) := by first | (rw [hy181]; with_reducible exact H) | (have H2_ := (Option.bind_some _ _).symm.trans H; rw [hy181]; with_reducible exact H2_) | (have H2_ := (Option.bind_some _ _).symm.trans H; with_reducible exact H2_) | with_reducible exact H | (rw [hy181]; exact H) | exact H
   have Ny181 := Aside0.mk hy181
   clear hy181
   simp only [Option.some.injEq, Prod.mk.injEq] at H
   obtain ⟨rfl, rfl⟩ := H
   go_enter Try.func81, Try.ntmps81
   try go_wp2_with (first | ((with_reducible refine gate_dst (N := 3) rfl ?_); refine box_event ?hg (N := 3) ?hd (cs := #[.int .i64 a0_0, .slice A0_1 l0_1.length c0_1]) (t := 43) ?hr ?_; (case hd => rfl); (case hg => rfl); (case hr => first | (go_simp; done) | (go_simp; rfl)); intro gb169 hg w6 hbox hb; have n0_ := Aside0.mk (below_step (by repeat (first | (with_reducible first | exact HB.out | apply below_alloc | apply pw_below_drewN | apply below_drew1) | exact HB.out)) hb); have n1_ := Aside0.mk (hbox); have n2_ := Aside0.mk ((by rw [hg]; exact (below_size (by repeat (first | (with_reducible first | exact HB.out | apply below_alloc | apply pw_below_drewN | apply below_drew1) | exact HB.out))) : w.heap.size ≤ gb169)); have n3_ := Aside0.mk ((by rw [hg]; exact (below_size (by repeat (first | (with_reducible first | exact HB.out | apply below_alloc | apply pw_below_drewN | apply below_drew1) | exact HB.out))) : w.heap.size ≤ gb169)); clear HB; have HB := n0_; have BK169 := n1_; have GW169 := n2_; have GE169 := n3_; clear n0_ n1_ n2_ n3_; clear hb hbox hg) | ((with_reducible refine gate_dst (N := 4) rfl ?_); refine box_event ?hg (N := 4) ?hd (cs := #[.int .i64 a1_0, .int .i64 a1_1]) (t := 36) ?hr ?_; (case hd => rfl); (case hg => rfl); (case hr => first | (go_simp; done) | (go_simp; rfl)); intro gb170 hg w7 hbox hb; have n0_ := Aside0.mk (blk_below (g := gb169) (o := .cells #[.int .i64 a0_0, .slice A0_1 l0_1.length c0_1] 43 (0, 0)) (by (with_reducible repeat (first | refine blk_drewN ?_ _ | refine blk_drew ?_ | refine blk_alloc ?_ _)); exact BK169.out) hb); have n1_ := Aside0.mk (below_step (by repeat (first | (with_reducible first | exact HB.out | apply below_alloc | apply pw_below_drewN | apply below_drew1 | refine below_set ?_ GE169.out) | exact HB.out)) hb); have n2_ := Aside0.mk (hbox); have n3_ := Aside0.mk ((by rw [hg]; exact (below_size (by repeat (first | (with_reducible first | exact HB.out | apply below_alloc | apply pw_below_drewN | apply below_drew1 | refine below_set ?_ GE169.out) | exact HB.out))) : w.heap.size ≤ gb170)); have n4_ := Aside0.mk ((by rw [hg]; exact (below_size (by repeat (first | (with_reducible first | exact HB.out | apply below_alloc | apply pw_below_drewN | apply below_drew1 | refine below_set ?_ GE169.out) | exact HB.out))) : w.heap.size ≤ gb170)); have n5_ := Aside0.mk ((by rw [hg]; exact Nat.ne_of_lt (blk_lt (g := gb169) (o := .cells #[.int .i64 a0_0, .slice A0_1 l0_1.length c0_1] 43 (0, 0)) (by (with_reducible repeat (first | refine blk_drewN ?_ _ | refine blk_drew ?_ | refine blk_alloc ?_ _)); exact BK169.out)) : gb169 ≠ gb170)); have n6_ := Aside0.mk ((by rw [hg]; exact Nat.ne_of_gt (blk_lt (g := gb169) (o := .cells #[.int .i64 a0_0, .slice A0_1 l0_1.length c0_1] 43 (0, 0)) (by (with_reducible repeat (first | refine blk_drewN ?_ _ | refine blk_drew ?_ | refine blk_alloc ?_ _)); exact BK169.out)) : gb170 ≠ gb169)); clear BK169; clear HB; have BK169 := n0_; have HB := n1_; have BK170 := n2_; have GW170 := n3_; have GE170 := n4_; have NB169_170 := n5_; have NB170_169 := n6_; clear n0_ n1_ n2_ n3_ n4_ n5_ n6_; clear hb hbox hg) | ((with_reducible refine gate_dst (N := 6) rfl ?_); refine box_event ?hg (N := 6) ?hd (cs := #[.int .i64 0, .slice none 0 0]) (t := 43) ?hr ?_; (case hd => rfl); (case hg => rfl); (case hr => first | (go_simp; done) | (go_simp; rfl)); intro gb171 hg w8 hbox hb; have n0_ := Aside0.mk (blk_below (g := gb169) (o := .cells #[.int .i64 a0_0, .slice A0_1 l0_1.length c0_1] 43 (0, 0)) (by (with_reducible repeat (first | refine blk_drewN ?_ _ | refine blk_drew ?_ | refine blk_alloc ?_ _)); exact BK169.out) hb); have n1_ := Aside0.mk (blk_below (g := gb170) (o := .cells #[.int .i64 a1_0, .int .i64 a1_1] 36 (0, 0)) (by (with_reducible repeat (first | refine blk_drewN ?_ _ | refine blk_drew ?_ | refine blk_alloc ?_ _)); exact BK170.out) hb); have n2_ := Aside0.mk (below_step (by repeat (first | (with_reducible first | exact HB.out | apply below_alloc | apply pw_below_drewN | apply below_drew1 | refine below_set ?_ GE169.out | refine below_set ?_ GE170.out) | exact HB.out)) hb); have n3_ := Aside0.mk (hbox); have n4_ := Aside0.mk ((by rw [hg]; exact (below_size (by repeat (first | (with_reducible first | exact HB.out | apply below_alloc | apply pw_below_drewN | apply below_drew1 | refine below_set ?_ GE169.out | refine below_set ?_ GE170.out) | exact HB.out))) : w.heap.size ≤ gb171)); have n5_ := Aside0.mk ((by rw [hg]; exact (below_size (by repeat (first | (with_reducible first | exact HB.out | apply below_alloc | apply pw_below_drewN | apply below_drew1 | refine below_set ?_ GE169.out | refine below_set ?_ GE170.out) | exact HB.out))) : w.heap.size ≤ gb171)); have n6_ := Aside0.mk ((by rw [hg]; exact Nat.ne_of_lt (blk_lt (g := gb169) (o := .cells #[.int .i64 a0_0, .slice A0_1 l0_1.length c0_1] 43 (0, 0)) (by (with_reducible repeat (first | refine blk_drewN ?_ _ | refine blk_drew ?_ | refine blk_alloc ?_ _)); exact BK169.out)) : gb169 ≠ gb171)); have n7_ := Aside0.mk ((by rw [hg]; exact Nat.ne_of_gt (blk_lt (g := gb169) (o := .cells #[.int .i64 a0_0, .slice A0_1 l0_1.length c0_1] 43 (0, 0)) (by (with_reducible repeat (first | refine blk_drewN ?_ _ | refine blk_drew ?_ | refine blk_alloc ?_ _)); exact BK169.out)) : gb171 ≠ gb169)); have n8_ := Aside0.mk ((by rw [hg]; exact Nat.ne_of_lt (blk_lt (g := gb170) (o := .cells #[.int .i64 a1_0, .int .i64 a1_1] 36 (0, 0)) (by (with_reducible repeat (first | refine blk_drewN ?_ _ | refine blk_drew ?_ | refine blk_alloc ?_ _)); exact BK170.out)) : gb170 ≠ gb171)); have n9_ := Aside0.mk ((by rw [hg]; exact Nat.ne_of_gt (blk_lt (g := gb170) (o := .cells #[.int .i64 a1_0, .int .i64 a1_1] 36 (0, 0)) (by (with_reducible repeat (first | refine blk_drewN ?_ _ | refine blk_drew ?_ | refine blk_alloc ?_ _)); exact BK170.out)) : gb171 ≠ gb170)); clear BK169; clear BK170; clear HB; have BK169 := n0_; have BK170 := n1_; have HB := n2_; have BK171 := n3_; have GW171 := n4_; have GE171 := n5_; have NB169_171 := n6_; have NB171_169 := n7_; have NB170_171 := n8_; have NB171_170 := n9_; clear n0_ n1_ n2_ n3_ n4_ n5_ n6_ n7_ n8_ n9_; clear hb hbox hg))
   have n0_ := Aside0.mk (blk_drew BK169.out)
   have n1_ := Aside0.mk (blk_drew BK170.out)
   have n2_ := Aside0.mk (blk_drew BK171.out)
   have n3_ := Aside0.mk (below_drew1 HB.out)
   clear BK169
   clear BK170
   clear BK171
   clear HB
   have BK169 := n0_
   have BK170 := n1_
   have BK171 := n2_
   have HB := n3_
   clear n0_ n1_ n2_ n3_
   refine start_ (n := 11) (S := fun w' => w'.cell? ⟨gb169, 0, none⟩ = some (.int .i64 a0_0) ∧ w'.cell? ⟨gb169, 1, none⟩ = some (.slice A0_1 l0_1.length c0_1) ∧ w'.cell? ⟨gb170, 0, none⟩ = some (.int .i64 a1_0) ∧ w'.cell? ⟨gb170, 1, none⟩ = some (.int .i64 a1_1)) (ds := [10]) #[ff,ff,ff,ff,ff,ff,ff,ff,ff,ff,ff] (by kernel_rfl) rfl rfl ⟨(blk_cell BK169.out 0).trans rfl, (blk_cell BK169.out 1).trans rfl, (blk_cell BK170.out 0).trans rfl, (blk_cell BK170.out 1).trans rfl⟩ (fun hHeld => ?_); refine with_tabW knellref12_arm.tab1 knellref12_arm.bits1 (fun HT_ HW_ => ?_)
   generalize w8.drew = w9 at BK169 BK170 BK171 HB hHeld ⊢
   refine pure_ (i := 1) (N := some 8) (v := ?_) (a' := ?_) #[ff,tt,ff,ff,ff,ff,ff,ff,ff,ff,ff] rfl rfl (any_of HT_.out (by kernel_rfl)) (fun _ _ _ h => h) (Or.inl ⟨by rfl, ?_⟩) ?_ ?_
   rotate_left
   ·intro w'
    go_simp
    with_reducible rfl
   rotate_left
   ·simp only [Act.put, sQ0, sQ1, sQ2, i64_w]
    rfl
   refine pure_ (i := 5) (N := some 12) (v := ?_) (a' := ?_) #[ff,tt,ff,ff,ff,tt,ff,ff,ff,ff,ff] rfl rfl (any_of HT_.out (by kernel_rfl)) (fun _ _ _ h => h) (Or.inl ⟨by rfl, ?_⟩) ?_ ?_
   rotate_left
   ·intro w'
    go_simp
    with_reducible rfl
   rotate_left
   ·simp only [Act.put, sQ0, sQ1, sQ2, i64_w]
    rfl
   refine take_ (i := 2) (N := some 9) (v := ?_) (a' := ?_) #[ff,tt,tt,ff,ff,tt,ff,ff,ff,ff,ff] rfl rfl (take_ofW HT_.out HW_.out (by kernel_rfl)) (fun _ _ _ h => h) (Or.inl ⟨by rfl, ?_⟩) hHeld ?_ ?_
   rotate_left
   ·rintro w' ⟨s0, s1, s2, s3⟩
    go_simp
    with_reducible rfl
   rotate_left
   ·simp only [Act.put, sQ0, sQ1, sQ2, i64_w]
    rfl
   refine take_ (i := 4) (N := some 11) (v := ?_) (a' := ?_) #[ff,tt,tt,ff,tt,tt,ff,ff,ff,ff,ff] rfl rfl (take_ofW HT_.out HW_.out (by kernel_rfl)) (fun _ _ _ h => h) (Or.inl ⟨by rfl, ?_⟩) hHeld ?_ ?_
   rotate_left
   ·rintro w' ⟨s0, s1, s2, s3⟩
    go_simp
    with_reducible rfl
   rotate_left
   ·simp only [Act.put, sQ0, sQ1, sQ2, i64_w]
    rfl
   refine pure_ (i := 6) (N := some 13) (v := ?_) (a' := ?_) #[ff,tt,tt,ff,tt,tt,tt,ff,ff,ff,ff] rfl rfl (any_of HT_.out (by kernel_rfl)) (fun _ _ _ h => h) (Or.inl ⟨by rfl, ?_⟩) ?_ ?_
   rotate_left
   ·intro w'
    go_simp
    with_reducible rfl
   rotate_left
   ·simp only [Act.put, sQ0, sQ1, sQ2, i64_w]
    rfl
   refine join_ (σ := Value × Value × Value) 3 #[tt,tt,tt,tt,tt,tt,tt,tt,ff,ff,ff] (fun s_ => [(7, s_.1), (10, s_.2.1), (14, s_.2.2)]) (fun s_ w' => (w'.cell? ⟨gb169, 0, none⟩ = some (.int .i64 a0_0) ∧ w'.cell? ⟨gb169, 1, none⟩ = some (.slice A0_1 l0_1.length c0_1) ∧ w'.cell? ⟨gb170, 0, none⟩ = some (.int .i64 a1_0) ∧ w'.cell? ⟨gb170, 1, none⟩ = some (.int .i64 a1_1)) ∧ (Kd.R k127 127 w' w.heap.size (fun k_ => some k_ ≠ (s_.2.2 : Value).ownBlock) s_.2.1 y175) ∧ (Kd.R k127 127 w' w.heap.size (fun k_ => some k_ ≠ (s_.2.1 : Value).ownBlock) s_.2.2 y178) ∧ (w'.heap[gb169]? = some (.cells #[.int .i64 a0_0, .slice A0_1 l0_1.length c0_1] 43 (0, 0))) ∧ (w'.heap[gb170]? = some (.cells #[.int .i64 a1_0, .int .i64 a1_1] 36 (0, 0))) ∧ (w'.heap[gb171]? = some (.cells #[.int .i64 0, .slice none 0 0] 43 (0, 0))) ∧ (Below w.heap.size w w')) ?_ ?_
   rotate_left
   ·intro hCont
    refine two_ (i := 0) (j := 7) (Ni := some 7) (Nj := some 14) #[tt,tt,tt,ff,tt,tt,tt,ff,ff,ff,ff] #[ff,tt,tt,ff,tt,tt,tt,tt,ff,ff,ff] rfl rfl rfl rfl (two_of HT_.out (by kernel_rfl)) (by decide) (by decide) (fun K hK => ?_) (fun K hK => ?_)
    ·skip
     refine Kd.R_lit_step k127 _ 127 ?hg (N := 7) ?hd (xs := ([] : List (S127))) (inner := []) (ok := fun _ => True) (okp := fun _ => True) ?hr ?hp (fun _ hk => hk) trivial (Below.refl _ _) (Nat.le_refl _) (by simp) ?_; (case hd => rfl); (case hg => rfl); (case hr => first | (go_simp; done) | (go_simp; rfl)); (case hp => exact (Reps.none _ _))
     intro v173 w10 ho11 hb hg_ hnew_
     clear hg_ hnew_
     (first | rw [← Ny172.out] at ho11 | (simp only [Int.reduceToNat] at ho11; rw [← Ny172.out] at ho11))
     have n0_ := Aside0.mk (Kd.R_lower ho11 (below_size (by repeat (first | (with_reducible first | exact HB.out | apply below_alloc | apply pw_below_drewN | apply below_drew1 | refine below_set ?_ GE169.out | refine below_set ?_ GE170.out | refine below_set ?_ GE171.out) | exact HB.out))))
     have n1_ := Aside0.mk (blk_below (g := gb169) (o := .cells #[.int .i64 a0_0, .slice A0_1 l0_1.length c0_1] 43 (0, 0)) (by (with_reducible repeat (first | refine blk_drewN ?_ _ | refine blk_drew ?_ | refine blk_alloc ?_ _)); exact BK169.out) hb)
     have n2_ := Aside0.mk (blk_below (g := gb170) (o := .cells #[.int .i64 a1_0, .int .i64 a1_1] 36 (0, 0)) (by (with_reducible repeat (first | refine blk_drewN ?_ _ | refine blk_drew ?_ | refine blk_alloc ?_ _)); exact BK170.out) hb)
     have n3_ := Aside0.mk (blk_below (g := gb171) (o := .cells #[.int .i64 0, .slice none 0 0] 43 (0, 0)) (by (with_reducible repeat (first | refine blk_drewN ?_ _ | refine blk_drew ?_ | refine blk_alloc ?_ _)); exact BK171.out) hb)
     have n4_ := Aside0.mk (below_step (by repeat (first | (with_reducible first | exact HB.out | apply below_alloc | apply pw_below_drewN | apply below_drew1 | refine below_set ?_ GE169.out | refine below_set ?_ GE170.out | refine below_set ?_ GE171.out) | exact HB.out)) hb)
     clear BK169
     clear BK170
     clear BK171
     clear HB
     have HO174 := n0_
     have BK169 := n1_
     have BK170 := n2_
     have BK171 := n3_
     have HB := n4_
     clear n0_ n1_ n2_ n3_ n4_
     clear hb ho11
     refine hK.out _ _ ⟨(blk_cell BK169.out 0).trans rfl, (blk_cell BK169.out 1).trans rfl, (blk_cell BK170.out 0).trans rfl, (blk_cell BK170.out 1).trans rfl⟩ (fun hHeld => ?_)
     clear hK K
     refine norm_ (a' := ?_) ?_ ?_
     rotate_left
     ·show Act.put _ (some 7) _ = _
      simp only [Act.put, sQ0, sQ1, sQ2, i64_w]
      rfl
     refine two_ (i := 3) (j := 7) (Ni := some 10) (Nj := some 14) #[tt,tt,tt,tt,tt,tt,tt,ff,ff,ff,ff] #[tt,tt,tt,ff,tt,tt,tt,tt,ff,ff,ff] rfl rfl rfl rfl (two_of HT_.out (by kernel_rfl)) (by decide) (by decide) (fun K hK => ?_) (fun K hK => ?_)
     ·skip
      refine Kd.R_append_rows_step k127 (w0 := w) w.heap.size (by rfl) (.tmp 7) (.tmp 9) 41 127 (.agg #[(.int .i64 0), (.int .i64 0), (.int .i64 0), (.int .i64 0)]) 32 rfl Try.underlying41 info127 rfl (by decide) (by omega) v173 y172 l0_1 _ _ _ (fun _ => True) (fun _ => False) rfl rfl ?aO ?aR (fun _ _ h => h) (fun _ h => h.elim) ?aF ?aB ?aS ?aL ?_
      (case aR => repeat (first | exact (Kd.C_below HR0_1.out HB.out) | (with_reducible refine Kd.C_alloc ?_ _) | (with_reducible refine Kd.C_drewN ?_ _) | (with_reducible refine Kd.C_drew ?_)))
      (case aB => exact (by repeat (first | (with_reducible first | exact HB.out | apply below_alloc | apply pw_below_drewN | apply below_drew1 | refine below_set ?_ GE169.out | refine below_set ?_ GE170.out | refine below_set ?_ GE171.out) | exact HB.out)))
      (case aF => exact (fun _ _ => trivial))
      (case aO => exact (by (with_reducible repeat (first | apply Kd.R_alloc | apply Kd.R_drewN | apply Kd.R_drew)); exact HO174.out))
      (case aS => exact (below_size (by repeat (first | (with_reducible first | exact HB.out | apply below_alloc | apply pw_below_drewN | apply below_drew1 | refine below_set ?_ GE169.out | refine below_set ?_ GE170.out | refine below_set ?_ GE171.out) | exact HB.out))))
      (case aL => have := LMc4.out; omega)
      intro v176 w12 ho hb hg hat
      rw [← Ny175.out] at ho
      have n0_ := Aside0.mk (blk_grown (g := gb169) (o := .cells #[.int .i64 a0_0, .slice A0_1 l0_1.length c0_1] 43 (0, 0)) (by (with_reducible repeat (first | refine blk_drewN ?_ _ | refine blk_drew ?_ | refine blk_alloc ?_ _)); exact BK169.out) hg (Kd.R_ne HO174.out BK169.out (by decide)))
      have n1_ := Aside0.mk (blk_grown (g := gb170) (o := .cells #[.int .i64 a1_0, .int .i64 a1_1] 36 (0, 0)) (by (with_reducible repeat (first | refine blk_drewN ?_ _ | refine blk_drew ?_ | refine blk_alloc ?_ _)); exact BK170.out) hg (Kd.R_ne HO174.out BK170.out (by decide)))
      have n2_ := Aside0.mk (blk_grown (g := gb171) (o := .cells #[.int .i64 0, .slice none 0 0] 43 (0, 0)) (by (with_reducible repeat (first | refine blk_drewN ?_ _ | refine blk_drew ?_ | refine blk_alloc ?_ _)); exact BK171.out) hg (Kd.R_ne HO174.out BK171.out (by decide)))
      have n3_ := Aside0.mk (hb)
      have n4_ := Aside0.mk (ho)
      clear BK169
      clear BK170
      clear BK171
      clear HB
      clear HO174
      have BK169 := n0_
      have BK170 := n1_
      have BK171 := n2_
      have HB := n3_
      have HO177 := n4_
      clear n0_ n1_ n2_ n3_ n4_
      clear ho hb hg hat
      refine hK.out _ _ ⟨(blk_cell BK169.out 0).trans rfl, (blk_cell BK169.out 1).trans rfl, (blk_cell BK170.out 0).trans rfl, (blk_cell BK170.out 1).trans rfl⟩ (fun hHeld => ?_)
      clear hK K
      refine norm_ (a' := ?_) ?_ ?_
      rotate_left
      ·show Act.put _ (some 10) _ = _
       simp only [Act.put, sQ0, sQ1, sQ2, i64_w]
       rfl
      refine one_ (i := 7) (N := some 14) #[tt,tt,tt,tt,tt,tt,tt,tt,ff,ff,ff] rfl rfl (one_of HT_.out (by kernel_rfl)) (by decide) (fun K hK => ?_)
      refine Kd.R_lit_step k127 _ 127 ?hg (N := 14) ?hd (xs := ([(⟨(⟨a1_0, a1_1⟩ : S36), 1, a2⟩ : S127)] : List (S127))) (inner := [.int .i64 a1_0, .int .i64 a1_1, .int .i64 1, .int .i64 a2]) (ok := fun _ => True) (okp := fun _ => True) ?hr ?hp (fun _ hk => hk) trivial (Below.refl _ _) (Nat.le_refl _) (by simp) ?_; (case hd => rfl); (case hg => rfl); (case hr => first | (go_simp; done) | (go_simp; rfl)); (case hp => exact (Reps.c4 (show Kd.M k127 _ _ _ (⟨(⟨a1_0, a1_1⟩ : S36), 1, a2⟩ : S127) [.int .i64 a1_0, .int .i64 a1_1, .int .i64 1, .int .i64 a2] from (k127_mkM _ _ _ (⟨(⟨a1_0, a1_1⟩ : S36), 1, a2⟩ : S127) )) (Reps.none _ _)))
      intro v179 w13 ho14 hb hg_ hnew_
      clear hg_ hnew_
      (first | rw [← Ny178.out] at ho14 | (simp only [Int.reduceToNat] at ho14; rw [← Ny178.out] at ho14))
      have n0_ := Aside0.mk (Kd.R_elder' (by (with_reducible repeat (first | apply Kd.R_alloc | apply Kd.R_drewN | apply Kd.R_drew)); exact HO177.out) (Kd.R_base ho14) hb)
      have n1_ := Aside0.mk (Kd.R_lower (Kd.R_new' ho14 (Kd.R_lt (by (with_reducible repeat (first | apply Kd.R_alloc | apply Kd.R_drewN | apply Kd.R_drew)); exact HO177.out))) (below_size (by repeat (first | (with_reducible first | exact HB.out | apply below_alloc | apply pw_below_drewN | apply below_drew1 | refine below_set ?_ GE169.out | refine below_set ?_ GE170.out | refine below_set ?_ GE171.out) | exact HB.out))))
      have n2_ := Aside0.mk (blk_below (g := gb169) (o := .cells #[.int .i64 a0_0, .slice A0_1 l0_1.length c0_1] 43 (0, 0)) (by (with_reducible repeat (first | refine blk_drewN ?_ _ | refine blk_drew ?_ | refine blk_alloc ?_ _)); exact BK169.out) hb)
      have n3_ := Aside0.mk (blk_below (g := gb170) (o := .cells #[.int .i64 a1_0, .int .i64 a1_1] 36 (0, 0)) (by (with_reducible repeat (first | refine blk_drewN ?_ _ | refine blk_drew ?_ | refine blk_alloc ?_ _)); exact BK170.out) hb)
      have n4_ := Aside0.mk (blk_below (g := gb171) (o := .cells #[.int .i64 0, .slice none 0 0] 43 (0, 0)) (by (with_reducible repeat (first | refine blk_drewN ?_ _ | refine blk_drew ?_ | refine blk_alloc ?_ _)); exact BK171.out) hb)
      have n5_ := Aside0.mk (below_step (by repeat (first | (with_reducible first | exact HB.out | apply below_alloc | apply pw_below_drewN | apply below_drew1 | refine below_set ?_ GE169.out | refine below_set ?_ GE170.out | refine below_set ?_ GE171.out) | exact HB.out)) hb)
      clear HO177
      clear BK169
      clear BK170
      clear BK171
      clear HB
      have HO177 := n0_
      have HO180 := n1_
      have BK169 := n2_
      have BK170 := n3_
      have BK171 := n4_
      have HB := n5_
      clear n0_ n1_ n2_ n3_ n4_ n5_
      clear hb ho14
      refine hK.out _ _ ⟨(blk_cell BK169.out 0).trans rfl, (blk_cell BK169.out 1).trans rfl, (blk_cell BK170.out 0).trans rfl, (blk_cell BK170.out 1).trans rfl⟩ (fun hHeld => ?_)
      clear hK K
      refine norm_ (a' := ?_) ?_ ?_
      rotate_left
      ·show Act.put _ (some 14) _ = _
       simp only [Act.put, sQ0, sQ1, sQ2, i64_w]
       rfl
      exact norm_ (by simp only [putAll, Act.put, sQ0, sQ1, sQ2]) (hCont (v173, v176, v179) _ ⟨hHeld, (by (with_reducible repeat (first | apply Kd.R_alloc | apply Kd.R_drewN | apply Kd.R_drew)); exact Kd.R_mono HO177.out (fun _ hk => hk.2)), (by (with_reducible repeat (first | apply Kd.R_alloc | apply Kd.R_drewN | apply Kd.R_drew)); exact Kd.R_mono HO180.out (fun _ hk => hk.2)), (by (with_reducible repeat (first | refine blk_drewN ?_ _ | refine blk_drew ?_ | refine blk_alloc ?_ _)); exact BK169.out), (by (with_reducible repeat (first | refine blk_drewN ?_ _ | refine blk_drew ?_ | refine blk_alloc ?_ _)); exact BK170.out), (by (with_reducible repeat (first | refine blk_drewN ?_ _ | refine blk_drew ?_ | refine blk_alloc ?_ _)); exact BK171.out), (by repeat (first | (with_reducible first | exact HB.out | apply below_alloc | apply pw_below_drewN | apply below_drew1 | refine below_set ?_ GE169.out | refine below_set ?_ GE170.out | refine below_set ?_ GE171.out) | exact HB.out))⟩)
     ·skip
      refine Kd.R_lit_step k127 _ 127 ?hg (N := 14) ?hd (xs := ([(⟨(⟨a1_0, a1_1⟩ : S36), 1, a2⟩ : S127)] : List (S127))) (inner := [.int .i64 a1_0, .int .i64 a1_1, .int .i64 1, .int .i64 a2]) (ok := fun _ => True) (okp := fun _ => True) ?hr ?hp (fun _ hk => hk) trivial (Below.refl _ _) (Nat.le_refl _) (by simp) ?_; (case hd => rfl); (case hg => rfl); (case hr => first | (go_simp; done) | (go_simp; rfl)); (case hp => exact (Reps.c4 (show Kd.M k127 _ _ _ (⟨(⟨a1_0, a1_1⟩ : S36), 1, a2⟩ : S127) [.int .i64 a1_0, .int .i64 a1_1, .int .i64 1, .int .i64 a2] from (k127_mkM _ _ _ (⟨(⟨a1_0, a1_1⟩ : S36), 1, a2⟩ : S127) )) (Reps.none _ _)))
      intro v179 w12 ho13 hb hg_ hnew_
      clear hg_ hnew_
      (first | rw [← Ny178.out] at ho13 | (simp only [Int.reduceToNat] at ho13; rw [← Ny178.out] at ho13))
      have n0_ := Aside0.mk (Kd.R_elder' (by (with_reducible repeat (first | apply Kd.R_alloc | apply Kd.R_drewN | apply Kd.R_drew)); exact HO174.out) (Kd.R_base ho13) hb)
      have n1_ := Aside0.mk (Kd.R_lower (Kd.R_new' ho13 (Kd.R_lt (by (with_reducible repeat (first | apply Kd.R_alloc | apply Kd.R_drewN | apply Kd.R_drew)); exact HO174.out))) (below_size (by repeat (first | (with_reducible first | exact HB.out | apply below_alloc | apply pw_below_drewN | apply below_drew1 | refine below_set ?_ GE169.out | refine below_set ?_ GE170.out | refine below_set ?_ GE171.out) | exact HB.out))))
      have n2_ := Aside0.mk (blk_below (g := gb169) (o := .cells #[.int .i64 a0_0, .slice A0_1 l0_1.length c0_1] 43 (0, 0)) (by (with_reducible repeat (first | refine blk_drewN ?_ _ | refine blk_drew ?_ | refine blk_alloc ?_ _)); exact BK169.out) hb)
      have n3_ := Aside0.mk (blk_below (g := gb170) (o := .cells #[.int .i64 a1_0, .int .i64 a1_1] 36 (0, 0)) (by (with_reducible repeat (first | refine blk_drewN ?_ _ | refine blk_drew ?_ | refine blk_alloc ?_ _)); exact BK170.out) hb)
      have n4_ := Aside0.mk (blk_below (g := gb171) (o := .cells #[.int .i64 0, .slice none 0 0] 43 (0, 0)) (by (with_reducible repeat (first | refine blk_drewN ?_ _ | refine blk_drew ?_ | refine blk_alloc ?_ _)); exact BK171.out) hb)
      have n5_ := Aside0.mk (below_step (by repeat (first | (with_reducible first | exact HB.out | apply below_alloc | apply pw_below_drewN | apply below_drew1 | refine below_set ?_ GE169.out | refine below_set ?_ GE170.out | refine below_set ?_ GE171.out) | exact HB.out)) hb)
      clear HO174
      clear BK169
      clear BK170
      clear BK171
      clear HB
      have HO174 := n0_
      have HO180 := n1_
      have BK169 := n2_
      have BK170 := n3_
      have BK171 := n4_
      have HB := n5_
      clear n0_ n1_ n2_ n3_ n4_ n5_
      clear hb ho13
      refine hK.out _ _ ⟨(blk_cell BK169.out 0).trans rfl, (blk_cell BK169.out 1).trans rfl, (blk_cell BK170.out 0).trans rfl, (blk_cell BK170.out 1).trans rfl⟩ (fun hHeld => ?_)
      clear hK K
      refine norm_ (a' := ?_) ?_ ?_
      rotate_left
      ·show Act.put _ (some 14) _ = _
       simp only [Act.put, sQ0, sQ1, sQ2, i64_w]
       rfl
      refine one_ (i := 3) (N := some 10) #[tt,tt,tt,tt,tt,tt,tt,tt,ff,ff,ff] rfl rfl (one_of HT_.out (by kernel_rfl)) (by decide) (fun K hK => ?_)
      refine Kd.R_append_rows_step k127 (w0 := w) w.heap.size (by rfl) (.tmp 7) (.tmp 9) 41 127 (.agg #[(.int .i64 0), (.int .i64 0), (.int .i64 0), (.int .i64 0)]) 32 rfl Try.underlying41 info127 rfl (by decide) (by omega) v173 y172 l0_1 _ _ _ (fun k_ => some k_ ≠ (v179 : Value).ownBlock) (fun _ => False) rfl rfl ?aO ?aR (fun _ _ h => h) (fun _ h => h.elim) ?aF ?aB ?aS ?aL ?_
      (case aR => repeat (first | exact (Kd.C_below HR0_1.out HB.out) | (with_reducible refine Kd.C_alloc ?_ _) | (with_reducible refine Kd.C_drewN ?_ _) | (with_reducible refine Kd.C_drew ?_)))
      (case aB => exact (by repeat (first | (with_reducible first | exact HB.out | apply below_alloc | apply pw_below_drewN | apply below_drew1 | refine below_set ?_ GE169.out | refine below_set ?_ GE170.out | refine below_set ?_ GE171.out) | exact HB.out)))
      (case aF => exact (fun k_ hk => Kd.fresh' (Kd.R_lt (by (with_reducible repeat (first | apply Kd.R_alloc | apply Kd.R_drewN | apply Kd.R_drew)); exact HO180.out)) k_ hk))
      (case aO => exact (by (with_reducible repeat (first | apply Kd.R_alloc | apply Kd.R_drewN | apply Kd.R_drew)); exact Kd.R_mono HO174.out (fun _ hk => hk.2)))
      (case aS => exact (below_size (by repeat (first | (with_reducible first | exact HB.out | apply below_alloc | apply pw_below_drewN | apply below_drew1 | refine below_set ?_ GE169.out | refine below_set ?_ GE170.out | refine below_set ?_ GE171.out) | exact HB.out))))
      (case aL => have := LMc4.out; omega)
      intro v176 w14 ho hb hg hat
      rw [← Ny175.out] at ho
      have n0_ := Aside0.mk (blk_grown (g := gb169) (o := .cells #[.int .i64 a0_0, .slice A0_1 l0_1.length c0_1] 43 (0, 0)) (by (with_reducible repeat (first | refine blk_drewN ?_ _ | refine blk_drew ?_ | refine blk_alloc ?_ _)); exact BK169.out) hg (Kd.R_ne HO174.out BK169.out (by decide)))
      have n1_ := Aside0.mk (blk_grown (g := gb170) (o := .cells #[.int .i64 a1_0, .int .i64 a1_1] 36 (0, 0)) (by (with_reducible repeat (first | refine blk_drewN ?_ _ | refine blk_drew ?_ | refine blk_alloc ?_ _)); exact BK170.out) hg (Kd.R_ne HO174.out BK170.out (by decide)))
      have n2_ := Aside0.mk (blk_grown (g := gb171) (o := .cells #[.int .i64 0, .slice none 0 0] 43 (0, 0)) (by (with_reducible repeat (first | refine blk_drewN ?_ _ | refine blk_drew ?_ | refine blk_alloc ?_ _)); exact BK171.out) hg (Kd.R_ne HO174.out BK171.out (by decide)))
      have n3_ := Aside0.mk (Kd.R_after (ok := (fun _ => True)) (by (with_reducible repeat (first | apply Kd.R_alloc | apply Kd.R_drewN | apply Kd.R_drew)); exact HO180.out) hg hat)
      have n4_ := Aside0.mk (hb)
      have n5_ := Aside0.mk (ho)
      clear BK169
      clear BK170
      clear BK171
      clear HO180
      clear HB
      clear HO174
      have BK169 := n0_
      have BK170 := n1_
      have BK171 := n2_
      have HO180 := n3_
      have HB := n4_
      have HO177 := n5_
      clear n0_ n1_ n2_ n3_ n4_ n5_
      clear ho hb hg hat
      refine hK.out _ _ ⟨(blk_cell BK169.out 0).trans rfl, (blk_cell BK169.out 1).trans rfl, (blk_cell BK170.out 0).trans rfl, (blk_cell BK170.out 1).trans rfl⟩ (fun hHeld => ?_)
      clear hK K
      refine norm_ (a' := ?_) ?_ ?_
      rotate_left
      ·show Act.put _ (some 10) _ = _
       simp only [Act.put, sQ0, sQ1, sQ2, i64_w]
       rfl
      exact norm_ (by simp only [putAll, Act.put, sQ0, sQ1, sQ2]) (hCont (v173, v176, v179) _ ⟨hHeld, (by (with_reducible repeat (first | apply Kd.R_alloc | apply Kd.R_drewN | apply Kd.R_drew)); exact HO177.out), (by (with_reducible repeat (first | apply Kd.R_alloc | apply Kd.R_drewN | apply Kd.R_drew)); exact Kd.R_mono HO180.out (fun _ hk => hk.2)), (by (with_reducible repeat (first | refine blk_drewN ?_ _ | refine blk_drew ?_ | refine blk_alloc ?_ _)); exact BK169.out), (by (with_reducible repeat (first | refine blk_drewN ?_ _ | refine blk_drew ?_ | refine blk_alloc ?_ _)); exact BK170.out), (by (with_reducible repeat (first | refine blk_drewN ?_ _ | refine blk_drew ?_ | refine blk_alloc ?_ _)); exact BK171.out), (by repeat (first | (with_reducible first | exact HB.out | apply below_alloc | apply pw_below_drewN | apply below_drew1 | refine below_set ?_ GE169.out | refine below_set ?_ GE170.out | refine below_set ?_ GE171.out) | exact HB.out))⟩)
    ·skip
     refine Kd.R_lit_step k127 _ 127 ?hg (N := 14) ?hd (xs := ([(⟨(⟨a1_0, a1_1⟩ : S36), 1, a2⟩ : S127)] : List (S127))) (inner := [.int .i64 a1_0, .int .i64 a1_1, .int .i64 1, .int .i64 a2]) (ok := fun _ => True) (okp := fun _ => True) ?hr ?hp (fun _ hk => hk) trivial (Below.refl _ _) (Nat.le_refl _) (by simp) ?_; (case hd => rfl); (case hg => rfl); (case hr => first | (go_simp; done) | (go_simp; rfl)); (case hp => exact (Reps.c4 (show Kd.M k127 _ _ _ (⟨(⟨a1_0, a1_1⟩ : S36), 1, a2⟩ : S127) [.int .i64 a1_0, .int .i64 a1_1, .int .i64 1, .int .i64 a2] from (k127_mkM _ _ _ (⟨(⟨a1_0, a1_1⟩ : S36), 1, a2⟩ : S127) )) (Reps.none _ _)))
     intro v179 w10 ho11 hb hg_ hnew_
     clear hg_ hnew_
     (first | rw [← Ny178.out] at ho11 | (simp only [Int.reduceToNat] at ho11; rw [← Ny178.out] at ho11))
     have n0_ := Aside0.mk (Kd.R_lower ho11 (below_size (by repeat (first | (with_reducible first | exact HB.out | apply below_alloc | apply pw_below_drewN | apply below_drew1 | refine below_set ?_ GE169.out | refine below_set ?_ GE170.out | refine below_set ?_ GE171.out) | exact HB.out))))
     have n1_ := Aside0.mk (blk_below (g := gb169) (o := .cells #[.int .i64 a0_0, .slice A0_1 l0_1.length c0_1] 43 (0, 0)) (by (with_reducible repeat (first | refine blk_drewN ?_ _ | refine blk_drew ?_ | refine blk_alloc ?_ _)); exact BK169.out) hb)
     have n2_ := Aside0.mk (blk_below (g := gb170) (o := .cells #[.int .i64 a1_0, .int .i64 a1_1] 36 (0, 0)) (by (with_reducible repeat (first | refine blk_drewN ?_ _ | refine blk_drew ?_ | refine blk_alloc ?_ _)); exact BK170.out) hb)
     have n3_ := Aside0.mk (blk_below (g := gb171) (o := .cells #[.int .i64 0, .slice none 0 0] 43 (0, 0)) (by (with_reducible repeat (first | refine blk_drewN ?_ _ | refine blk_drew ?_ | refine blk_alloc ?_ _)); exact BK171.out) hb)
     have n4_ := Aside0.mk (below_step (by repeat (first | (with_reducible first | exact HB.out | apply below_alloc | apply pw_below_drewN | apply below_drew1 | refine below_set ?_ GE169.out | refine below_set ?_ GE170.out | refine below_set ?_ GE171.out) | exact HB.out)) hb)
     clear BK169
     clear BK170
     clear BK171
     clear HB
     have HO180 := n0_
     have BK169 := n1_
     have BK170 := n2_
     have BK171 := n3_
     have HB := n4_
     clear n0_ n1_ n2_ n3_ n4_
     clear hb ho11
     refine hK.out _ _ ⟨(blk_cell BK169.out 0).trans rfl, (blk_cell BK169.out 1).trans rfl, (blk_cell BK170.out 0).trans rfl, (blk_cell BK170.out 1).trans rfl⟩ (fun hHeld => ?_)
     clear hK K
     refine norm_ (a' := ?_) ?_ ?_
     rotate_left
     ·show Act.put _ (some 14) _ = _
      simp only [Act.put, sQ0, sQ1, sQ2, i64_w]
      rfl
     refine one_ (i := 0) (N := some 7) #[tt,tt,tt,ff,tt,tt,tt,tt,ff,ff,ff] rfl rfl (one_of HT_.out (by kernel_rfl)) (by decide) (fun K hK => ?_)
     refine Kd.R_lit_step k127 _ 127 ?hg (N := 7) ?hd (xs := ([] : List (S127))) (inner := []) (ok := fun _ => True) (okp := fun _ => True) ?hr ?hp (fun _ hk => hk) trivial (Below.refl _ _) (Nat.le_refl _) (by simp) ?_; (case hd => rfl); (case hg => rfl); (case hr => first | (go_simp; done) | (go_simp; rfl)); (case hp => exact (Reps.none _ _))
     intro v173 w12 ho13 hb hg_ hnew_
     clear hg_ hnew_
     (first | rw [← Ny172.out] at ho13 | (simp only [Int.reduceToNat] at ho13; rw [← Ny172.out] at ho13))
     have n0_ := Aside0.mk (Kd.R_elder' (by (with_reducible repeat (first | apply Kd.R_alloc | apply Kd.R_drewN | apply Kd.R_drew)); exact HO180.out) (Kd.R_base ho13) hb)
     have n1_ := Aside0.mk (Kd.R_lower (Kd.R_new' ho13 (Kd.R_lt (by (with_reducible repeat (first | apply Kd.R_alloc | apply Kd.R_drewN | apply Kd.R_drew)); exact HO180.out))) (below_size (by repeat (first | (with_reducible first | exact HB.out | apply below_alloc | apply pw_below_drewN | apply below_drew1 | refine below_set ?_ GE169.out | refine below_set ?_ GE170.out | refine below_set ?_ GE171.out) | exact HB.out))))
     have n2_ := Aside0.mk (blk_below (g := gb169) (o := .cells #[.int .i64 a0_0, .slice A0_1 l0_1.length c0_1] 43 (0, 0)) (by (with_reducible repeat (first | refine blk_drewN ?_ _ | refine blk_drew ?_ | refine blk_alloc ?_ _)); exact BK169.out) hb)
     have n3_ := Aside0.mk (blk_below (g := gb170) (o := .cells #[.int .i64 a1_0, .int .i64 a1_1] 36 (0, 0)) (by (with_reducible repeat (first | refine blk_drewN ?_ _ | refine blk_drew ?_ | refine blk_alloc ?_ _)); exact BK170.out) hb)
     have n4_ := Aside0.mk (blk_below (g := gb171) (o := .cells #[.int .i64 0, .slice none 0 0] 43 (0, 0)) (by (with_reducible repeat (first | refine blk_drewN ?_ _ | refine blk_drew ?_ | refine blk_alloc ?_ _)); exact BK171.out) hb)
     have n5_ := Aside0.mk (below_step (by repeat (first | (with_reducible first | exact HB.out | apply below_alloc | apply pw_below_drewN | apply below_drew1 | refine below_set ?_ GE169.out | refine below_set ?_ GE170.out | refine below_set ?_ GE171.out) | exact HB.out)) hb)
     clear HO180
     clear BK169
     clear BK170
     clear BK171
     clear HB
     have HO180 := n0_
     have HO174 := n1_
     have BK169 := n2_
     have BK170 := n3_
     have BK171 := n4_
     have HB := n5_
     clear n0_ n1_ n2_ n3_ n4_ n5_
     clear hb ho13
     refine hK.out _ _ ⟨(blk_cell BK169.out 0).trans rfl, (blk_cell BK169.out 1).trans rfl, (blk_cell BK170.out 0).trans rfl, (blk_cell BK170.out 1).trans rfl⟩ (fun hHeld => ?_)
     clear hK K
     refine norm_ (a' := ?_) ?_ ?_
     rotate_left
     ·show Act.put _ (some 7) _ = _
      simp only [Act.put, sQ0, sQ1, sQ2, i64_w]
      rfl
     refine one_ (i := 3) (N := some 10) #[tt,tt,tt,tt,tt,tt,tt,tt,ff,ff,ff] rfl rfl (one_of HT_.out (by kernel_rfl)) (by decide) (fun K hK => ?_)
     refine Kd.R_append_rows_step k127 (w0 := w) w.heap.size (by rfl) (.tmp 7) (.tmp 9) 41 127 (.agg #[(.int .i64 0), (.int .i64 0), (.int .i64 0), (.int .i64 0)]) 32 rfl Try.underlying41 info127 rfl (by decide) (by omega) v173 y172 l0_1 _ _ _ (fun k_ => some k_ ≠ (v179 : Value).ownBlock) (fun _ => False) rfl rfl ?aO ?aR (fun _ _ h => h) (fun _ h => h.elim) ?aF ?aB ?aS ?aL ?_
     (case aR => repeat (first | exact (Kd.C_below HR0_1.out HB.out) | (with_reducible refine Kd.C_alloc ?_ _) | (with_reducible refine Kd.C_drewN ?_ _) | (with_reducible refine Kd.C_drew ?_)))
     (case aB => exact (by repeat (first | (with_reducible first | exact HB.out | apply below_alloc | apply pw_below_drewN | apply below_drew1 | refine below_set ?_ GE169.out | refine below_set ?_ GE170.out | refine below_set ?_ GE171.out) | exact HB.out)))
     (case aF => exact (fun k_ hk => Kd.fresh' (Kd.R_lt (by (with_reducible repeat (first | apply Kd.R_alloc | apply Kd.R_drewN | apply Kd.R_drew)); exact HO180.out)) k_ hk))
     (case aO => exact (by (with_reducible repeat (first | apply Kd.R_alloc | apply Kd.R_drewN | apply Kd.R_drew)); exact Kd.R_mono HO174.out (fun _ hk => hk.2)))
     (case aS => exact (below_size (by repeat (first | (with_reducible first | exact HB.out | apply below_alloc | apply pw_below_drewN | apply below_drew1 | refine below_set ?_ GE169.out | refine below_set ?_ GE170.out | refine below_set ?_ GE171.out) | exact HB.out))))
     (case aL => have := LMc4.out; omega)
     intro v176 w14 ho hb hg hat
     rw [← Ny175.out] at ho
     have n0_ := Aside0.mk (blk_grown (g := gb169) (o := .cells #[.int .i64 a0_0, .slice A0_1 l0_1.length c0_1] 43 (0, 0)) (by (with_reducible repeat (first | refine blk_drewN ?_ _ | refine blk_drew ?_ | refine blk_alloc ?_ _)); exact BK169.out) hg (Kd.R_ne HO174.out BK169.out (by decide)))
     have n1_ := Aside0.mk (blk_grown (g := gb170) (o := .cells #[.int .i64 a1_0, .int .i64 a1_1] 36 (0, 0)) (by (with_reducible repeat (first | refine blk_drewN ?_ _ | refine blk_drew ?_ | refine blk_alloc ?_ _)); exact BK170.out) hg (Kd.R_ne HO174.out BK170.out (by decide)))
     have n2_ := Aside0.mk (blk_grown (g := gb171) (o := .cells #[.int .i64 0, .slice none 0 0] 43 (0, 0)) (by (with_reducible repeat (first | refine blk_drewN ?_ _ | refine blk_drew ?_ | refine blk_alloc ?_ _)); exact BK171.out) hg (Kd.R_ne HO174.out BK171.out (by decide)))
     have n3_ := Aside0.mk (Kd.R_after (ok := (fun _ => True)) (by (with_reducible repeat (first | apply Kd.R_alloc | apply Kd.R_drewN | apply Kd.R_drew)); exact HO180.out) hg hat)
     have n4_ := Aside0.mk (hb)
     have n5_ := Aside0.mk (ho)
     clear BK169
     clear BK170
     clear BK171
     clear HO180
     clear HB
     clear HO174
     have BK169 := n0_
     have BK170 := n1_
     have BK171 := n2_
     have HO180 := n3_
     have HB := n4_
     have HO177 := n5_
     clear n0_ n1_ n2_ n3_ n4_ n5_
     clear ho hb hg hat
     refine hK.out _ _ ⟨(blk_cell BK169.out 0).trans rfl, (blk_cell BK169.out 1).trans rfl, (blk_cell BK170.out 0).trans rfl, (blk_cell BK170.out 1).trans rfl⟩ (fun hHeld => ?_)
     clear hK K
     refine norm_ (a' := ?_) ?_ ?_
     rotate_left
     ·show Act.put _ (some 10) _ = _
      simp only [Act.put, sQ0, sQ1, sQ2, i64_w]
      rfl
     exact norm_ (by simp only [putAll, Act.put, sQ0, sQ1, sQ2]) (hCont (v173, v176, v179) _ ⟨hHeld, (by (with_reducible repeat (first | apply Kd.R_alloc | apply Kd.R_drewN | apply Kd.R_drew)); exact HO177.out), (by (with_reducible repeat (first | apply Kd.R_alloc | apply Kd.R_drewN | apply Kd.R_drew)); exact Kd.R_mono HO180.out (fun _ hk => hk.2)), (by (with_reducible repeat (first | refine blk_drewN ?_ _ | refine blk_drew ?_ | refine blk_alloc ?_ _)); exact BK169.out), (by (with_reducible repeat (first | refine blk_drewN ?_ _ | refine blk_drew ?_ | refine blk_alloc ?_ _)); exact BK170.out), (by (with_reducible repeat (first | refine blk_drewN ?_ _ | refine blk_drew ?_ | refine blk_alloc ?_ _)); exact BK171.out), (by repeat (first | (with_reducible first | exact HB.out | apply below_alloc | apply pw_below_drewN | apply below_drew1 | refine below_set ?_ GE169.out | refine below_set ?_ GE170.out | refine below_set ?_ GE171.out) | exact HB.out))⟩)
   rintro ⟨v173, v176, v179⟩ w15 ⟨hS_, h0_, h1_, h2_, h3_, h4_, h5_⟩
   have n0_ : Aside0 (Kd.R k127 127 w15 w.heap.size (fun k_ => some k_ ≠ (v179 : Value).ownBlock) v176 y175) := ⟨h0_⟩
   have n1_ : Aside0 (Kd.R k127 127 w15 w.heap.size (fun k_ => some k_ ≠ (v176 : Value).ownBlock) v179 y178) := ⟨h1_⟩
   have n2_ : Aside0 (w15.heap[gb169]? = some (.cells #[.int .i64 a0_0, .slice A0_1 l0_1.length c0_1] 43 (0, 0))) := ⟨h2_⟩
   have n3_ : Aside0 (w15.heap[gb170]? = some (.cells #[.int .i64 a1_0, .int .i64 a1_1] 36 (0, 0))) := ⟨h3_⟩
   have n4_ : Aside0 (w15.heap[gb171]? = some (.cells #[.int .i64 0, .slice none 0 0] 43 (0, 0))) := ⟨h4_⟩
   have n5_ : Aside0 (Below w.heap.size w w15) := ⟨h5_⟩
   clear BK169
   clear BK170
   clear BK171
   clear HB
   clear h0_ h1_ h2_ h3_ h4_ h5_
   have HO177 := n0_
   have HO180 := n1_
   have BK169 := n2_
   have BK170 := n3_
   have BK171 := n4_
   have HB := n5_
   clear n0_ n1_ n2_ n3_ n4_ n5_
   have hHeld : w15.cell? ⟨gb169, 0, none⟩ = some (.int .i64 a0_0) ∧ w15.cell? ⟨gb169, 1, none⟩ = some (.slice A0_1 l0_1.length c0_1) ∧ w15.cell? ⟨gb170, 0, none⟩ = some (.int .i64 a1_0) ∧ w15.cell? ⟨gb170, 1, none⟩ = some (.int .i64 a1_1) := hS_
   obtain ⟨Ao17, co17, eo17⟩ := Kd.R_slice HO180.out
   (first | subst eo17 | (injection eo17 with f1_ f2_ f3_; have f4_ := f1_.symm; have f5_ := f3_.symm; clear f1_ f2_ f3_; subst f4_; subst f5_))
   refine norm_ (a' := ?_) ?_ ?_
   rotate_left
   ·simp only [putAll, Act.put, sQ0, sQ1, sQ2]
    rfl
   refine one_ (i := 8) (N := some 15) #[tt,tt,tt,tt,tt,tt,tt,tt,tt,ff,ff] rfl rfl (one_of HT_.out (by kernel_rfl)) (by decide) (fun K hK => ?_)
   refine Kd.R_append_rows_step k127 (w0 := w) w.heap.size (by rfl) (.tmp 10) (.tmp 14) 41 127 (.agg #[(.int .i64 0), (.int .i64 0), (.int .i64 0), (.int .i64 0)]) 32 rfl Try.underlying41 info127 rfl (by decide) (by omega) v176 y175 y178 _ _ _ (fun k_ => some k_ ≠ (.slice Ao17 y178.length co17 : Value).ownBlock) (fun _ => False) rfl rfl ?aO ?aR (fun _ _ h => h) (fun _ h => h.elim) ?aF ?aB ?aS ?aL ?_
   (case aR => repeat (first | exact (Kd.R_reads' HO180.out).2.2 | (with_reducible refine Kd.C_alloc ?_ _) | (with_reducible refine Kd.C_drewN ?_ _) | (with_reducible refine Kd.C_drew ?_)))
   (case aB => exact (by repeat (first | (with_reducible first | exact HB.out | apply below_alloc | apply pw_below_drewN | apply below_drew1 | refine below_set ?_ GE169.out | refine below_set ?_ GE170.out | refine below_set ?_ GE171.out) | exact HB.out)))
   (case aF => exact (fun k_ hk => Kd.fresh' (Kd.R_lt (by (with_reducible repeat (first | apply Kd.R_alloc | apply Kd.R_drewN | apply Kd.R_drew)); exact HO180.out)) k_ hk))
   (case aO => exact (by (with_reducible repeat (first | apply Kd.R_alloc | apply Kd.R_drewN | apply Kd.R_drew)); exact HO177.out))
   (case aS => exact (below_size (by repeat (first | (with_reducible first | exact HB.out | apply below_alloc | apply pw_below_drewN | apply below_drew1 | refine below_set ?_ GE169.out | refine below_set ?_ GE170.out | refine below_set ?_ GE171.out) | exact HB.out))))
   (case aL => have := LMc5.out; omega)
   intro v182 w16 ho hb hg hat
   rw [← Ny181.out] at ho
   have n0_ := Aside0.mk (blk_grown (g := gb169) (o := .cells #[.int .i64 a0_0, .slice A0_1 l0_1.length c0_1] 43 (0, 0)) (by (with_reducible repeat (first | refine blk_drewN ?_ _ | refine blk_drew ?_ | refine blk_alloc ?_ _)); exact BK169.out) hg (Kd.R_ne HO177.out BK169.out (by decide)))
   have n1_ := Aside0.mk (blk_grown (g := gb170) (o := .cells #[.int .i64 a1_0, .int .i64 a1_1] 36 (0, 0)) (by (with_reducible repeat (first | refine blk_drewN ?_ _ | refine blk_drew ?_ | refine blk_alloc ?_ _)); exact BK170.out) hg (Kd.R_ne HO177.out BK170.out (by decide)))
   have n2_ := Aside0.mk (blk_grown (g := gb171) (o := .cells #[.int .i64 0, .slice none 0 0] 43 (0, 0)) (by (with_reducible repeat (first | refine blk_drewN ?_ _ | refine blk_drew ?_ | refine blk_alloc ?_ _)); exact BK171.out) hg (Kd.R_ne HO177.out BK171.out (by decide)))
   have n3_ := Aside0.mk (Kd.R_after (ok := (fun _ => True)) (by (with_reducible repeat (first | apply Kd.R_alloc | apply Kd.R_drewN | apply Kd.R_drew)); exact Kd.R_mono HO180.out (fun _ hk => ⟨trivial, hk⟩)) hg hat)
   have n4_ := Aside0.mk (hb)
   have n5_ := Aside0.mk (ho)
   clear BK169
   clear BK170
   clear BK171
   clear HO180
   clear HB
   clear HO177
   have BK169 := n0_
   have BK170 := n1_
   have BK171 := n2_
   have HO180 := n3_
   have HB := n4_
   have HO183 := n5_
   clear n0_ n1_ n2_ n3_ n4_ n5_
   clear ho hb hg hat
   obtain ⟨Ao18, co18, eo18⟩ := Kd.R_slice HO183.out
   (first | subst eo18 | (injection eo18 with f1_ f2_ f3_; have f4_ := f1_.symm; have f5_ := f3_.symm; clear f1_ f2_ f3_; subst f4_; subst f5_))
   refine hK.out _ _ ⟨(blk_cell BK169.out 0).trans rfl, (blk_cell BK169.out 1).trans rfl, (blk_cell BK170.out 0).trans rfl, (blk_cell BK170.out 1).trans rfl⟩ (fun hHeld => ?_)
   clear hK K
   refine norm_ (a' := ?_) ?_ ?_
   rotate_left
   ·show Act.put _ (some 15) _ = _
    simp only [Act.put, sQ0, sQ1, sQ2, i64_w]
    rfl
   refine pure_ (i := 9) (N := some 16) (v := ?_) (a' := ?_) #[tt,tt,tt,tt,tt,tt,tt,tt,tt,tt,ff] rfl rfl (any_of HT_.out (by kernel_rfl)) (fun _ _ _ h => h) (Or.inl ⟨by rfl, ?_⟩) ?_ ?_
   rotate_left
   ·intro w'
    go_simp
    with_reducible rfl
   rotate_left
   ·simp only [Act.put, sQ0, sQ1, sQ2, i64_w]
    rfl
   refine last_ (i := 10) (N := none) #[tt,tt,tt,tt,tt,tt,tt,tt,tt,tt,tt] rfl rfl (one_of HT_.out (by kernel_rfl)) (by decide) (fun K hK => ?_)
   have hs19 : w16.cell? ⟨gb169, 1, none⟩ = some (.slice A0_1 l0_1.length c0_1) := (blk_cell BK169.out 1).trans rfl
   have hfs19 := blk_frozen BK169.out 1
   have hns19_1 := NB170_169.out
   have hns19_2 := NB171_169.out
   have hms19_1 := NB169_170.out
   have hms19_2 := NB169_171.out
   refine skip_ (w1 := ?_) (by rfl) rfl ?_ ?_
   rotate_left
   ·go_simp
    rfl
   refine hK.out _ _ ?_
   clear hK K
   refine done_ (done_of HT_.out (by kernel_rfl)) ?_
   have hnb20 := NB169_170.out
   have hnc20 := NB170_169.out
   have hnb21 := NB169_171.out
   have hnc21 := NB171_169.out
   have hcz22_0 : w16.cell? ⟨gb169, 0, none⟩ = some (.int .i64 a0_0) := (blk_cell BK169.out 0).trans rfl
   have hcz22_1 : w16.cell? ⟨gb169, 1, none⟩ = some (.slice A0_1 l0_1.length c0_1) := (blk_cell BK169.out 1).trans rfl
   have hfz22_0 := blk_frozen BK169.out 0
   have hfz22_1 := blk_frozen BK169.out 1
   have hnb23 := NB171_170.out
   have hnc23 := NB170_171.out
   have hcz24_0 : w16.cell? ⟨gb171, 0, none⟩ = some (.int .i64 0) := (blk_cell BK171.out 0).trans rfl
   have hcz24_1 : w16.cell? ⟨gb171, 1, none⟩ = some (.slice none 0 0) := (blk_cell BK171.out 1).trans rfl
   have hfz24_0 := blk_frozen BK171.out 0
   have hfz24_1 := blk_frozen BK171.out 1
   try go_wp2
   refine bodyPost_ret (results_cell_row rfl _ _ gb171 43 #[.int .i64 a0_0, .slice Ao18 y181.length co18] (0, 0) _ rfl (by (with_reducible repeat (first | refine blk_drewN ?_ _ | refine blk_drew ?_ | refine blk_alloc ?_ _)); refine blk_put (cs := #[.int .i64 a0_0, .slice none 0 0]) ?_ 1 _ rfl; (with_reducible repeat (first | refine blk_drewN ?_ _ | refine blk_drew ?_ | refine blk_alloc ?_ _)); refine blk_put (cs := #[.int .i64 0, .slice none 0 0]) ?_ 0 _ rfl; (with_reducible repeat (first | refine blk_drewN ?_ _ | refine blk_drew ?_ | refine blk_alloc ?_ _)); refine blk_far ?_ NB171_169.out _; (with_reducible repeat (first | refine blk_drewN ?_ _ | refine blk_drew ?_ | refine blk_alloc ?_ _)); exact BK171.out) Try.underlying43 rfl (by kernel_rfl)) rfl ?_
   exact ⟨_, by first | rfl | (simp [errW_none, errW_some] <;> rfl) | (simp [*, errW_none, errW_some] <;> rfl), by (with_reducible repeat (first | apply Kd.R_alloc | apply Kd.R_drewN | apply Kd.R_drew)); exact Kd.R_mono (Kd.R_far (p := ⟨gb171, 1, none⟩) (Kd.R_far (p := ⟨gb171, 0, none⟩) (Kd.R_far (p := ⟨gb169, 1, none⟩) (Kd.R_types (Kd.R_types HO183.out BK169.out (by decide)) BK171.out (by decide)) (fun _ hk => hk.1.2) (.slice Ao18 y181.length co18)) (fun _ hk => hk.2) (.int .i64 a0_0)) (fun _ hk => hk.2) (.slice Ao18 y181.length co18)) (fun _ hk => trivial), by repeat (first | (with_reducible first | exact HB.out | apply below_alloc | apply pw_below_drewN | apply below_drew1 | refine below_set ?_ GE169.out | refine below_set ?_ GE170.out | refine below_set ?_ GE171.out) | exact HB.out)⟩
  ·rw [if_neg c5] at H
   exact absurd H (by simp)
 ·rw [if_neg c4] at H
  exact absurd H (by simp)
end Go.Proofs.Ythniclbmpeklmaa.KJf
end
section
namespace Go.Proofs.Ythniclbmpeklmaa.Ju
open Go.RowKit Go.Proofs.Ythniclbmpeklmaa.Au
set_option linter.unusedVariables false
set_option linter.unusedSimpArgs false
theorem right_op {e : Ev} (h : rightJ e = true) (hk : e.k = 3) : 1 ≤ e.op ∧ e.op ≤ 4 ∧ 0 ≤ e.ng ∧ 0 ≤ e.nn := by
 unfold rightJ Ev.evRight Ev.kindB at h
 rw [hk] at h
 simp at h
 omega
structure MInv (m : Md) : Prop where
 top : ∀ h, m.fat h ≠ none → ∃ g, m.lst h.1 = some g ∧ h.2 ≤ g
 arm : ∀ h, m.st h = 1 → m.lst h.1 = some h.2
theorem st_fat {m : Md} {h : Ha} (hs : m.st h = 1) : m.fat h ≠ none := fun q => by unfold Md.st at hs; rw [q] at hs; simp at hs
theorem st_upd (m : Md) (h x : Ha) (v : Int × Int) : ({ m with fat := updF m.fat h v } : Md).st x = if x = h then v.1 else m.st x := by
 unfold Md.st updF
 by_cases e : x = h <;> simp [e]
theorem end_st (m : Md) (h x : Ha) (s : Int) : (m.end_ h s).st x = if x = h then s else m.st x := st_upd m h x (s, 0)
theorem arm_st (m : Md) (h x : Ha) (d : Int) : (m.arm h d).st x = if x = h then 1 else m.st x := st_upd m h x (1, d)
theorem end_fat (m : Md) (h x : Ha) (s : Int) : (m.end_ h s).fat x = if x = h then some (s, 0) else m.fat x := rfl
theorem arm_fat (m : Md) (h x : Ha) (d : Int) : (m.arm h d).fat x = if x = h then some (1, d) else m.fat x := rfl
theorem arm_lst (m : Md) (h : Ha) (d : Int) (n : Int) : (m.arm h d).lst n = if n = h.1 then some h.2 else m.lst n := rfl
theorem MInv0 : MInv md0 := ⟨fun h q => absurd rfl q, fun h q => by simp [md0, Md.st] at q⟩
theorem MInv.end_ {m : Md} (h : MInv m) {x : Ha} (hx : m.fat x ≠ none) {s : Int} (hs : s ≠ 1) : MInv (m.end_ x s) := by
 constructor
 ·intro y hy
  rw [end_fat] at hy
  by_cases e : y = x
  ·rw [e]; exact h.top x hx
  ·rw [if_neg e] at hy; exact h.top y hy
 ·intro y hy
  rw [end_st] at hy
  by_cases e : y = x
  ·rw [if_pos e] at hy; omega
  ·rw [if_neg e] at hy; exact h.arm y hy
theorem MInv.arm_ {m : Md} (h : MInv m) {x : Ha} {d : Int} (hn : ∀ g, m.lst x.1 = some g → g < x.2) (ha : ∀ y : Ha, y.1 = x.1 → m.st y ≠ 1) : MInv (m.arm x d) := by
 constructor
 ·intro y hy
  rw [arm_fat] at hy
  rw [arm_lst]
  by_cases e : y = x
  ·rw [e, if_pos rfl]; exact ⟨_, rfl, Int.le_refl _⟩
  ·rw [if_neg e] at hy
   obtain ⟨g, h1, h2⟩ := h.top y hy
   by_cases e1 : y.1 = x.1
   ·rw [if_pos e1]
    rw [e1] at h1
    have := hn g h1
    exact ⟨_, rfl, by omega⟩
   ·rw [if_neg e1]; exact ⟨g, h1, h2⟩
 ·intro y hy
  rw [arm_st] at hy
  rw [arm_lst]
  by_cases e : y = x
  ·rw [e, if_pos rfl]
  ·rw [if_neg e] at hy
   have e1 : y.1 ≠ x.1 := fun q => ha y q hy
   rw [if_neg e1]
   exact h.arm y hy
theorem MInv.start {m : Md} (h : MInv m) {x : Ha} (hs : m.startOk x = true) : (∀ g, m.lst x.1 = some g → g < x.2) ∧ (∀ y : Ha, y.1 = x.1 → m.st y ≠ 1) ∧ m.fat x = none := by
 unfold Md.startOk at hs
 have h1 : ∀ g, m.lst x.1 = some g → m.st (x.1, g) ≠ 1 ∧ g < x.2 := fun g hg => by
  rw [hg] at hs
  simpa using hs
 refine ⟨fun g hg => (h1 g hg).2, fun y hy hq => ?_, ?_⟩
 ·have := h.arm y hq
  rw [hy] at this
  have := (h1 _ this).1
  rw [← hy] at this
  exact this hq
 ·cases hf : m.fat x with
  | none => rfl
  | some v =>
   obtain ⟨g, hg, hle⟩ := h.top x (by rw [hf]; simp)
   have := (h1 g hg).2
   omega
theorem wrap_next {g n : Int} (hg : (Lit.int .i64 g).wf = true) (h0 : 0 ≤ n) (h : n = wrap64 (g + 1)) : n = g + 1 := by
 have h1 : IntKind.i64.min = -9223372036854775808 := rfl
 simp [Lit.wf, h1] at hg
 unfold wrap64 at h
 omega
theorem MInv.rearm {m : Md} (h : MInv m) {x y : Ha} (ha : m.st x = 1) (h1 : y.1 = x.1) (h2 : y.2 = x.2 + 1) {d : Int} : m.fat y = none ∧ MInv ((m.end_ x 4).arm y d) := by
 have hl := h.arm x ha
 have hx := st_fat ha
 have hy : m.fat y = none := by
  cases hf : m.fat y with
  | none => rfl
  | some v =>
   obtain ⟨g, hg, hle⟩ := h.top y (by rw [hf]; simp)
   rw [h1, hl] at hg
   have := Option.some.inj hg
   omega
 refine ⟨hy, (h.end_ hx (by omega)).arm_ (fun g hg => ?_) (fun z hz hq => ?_)⟩
 ·have hg' : m.lst y.1 = some g := hg
  rw [h1, hl] at hg'
  have := Option.some.inj hg'
  omega
 ·rw [end_st] at hq
  by_cases e : z = x
  ·rw [if_pos e] at hq; omega
  ·rw [if_neg e] at hq
   have h3 := h.arm z hq
   rw [hz, h1, hl] at h3
   exact e (Prod.ext (hz.trans h1) (Option.some.inj h3).symm)
theorem right_k {e : Ev} (h : rightJ e = true) : e.k = 1 ∨ e.k = 2 ∨ e.k = 3 ∨ e.k = 4 ∨ e.k = 5 := by
 unfold rightJ Ev.evRight Ev.kindB at h
 simp at h
 omega
end Go.Proofs.Ythniclbmpeklmaa.Ju
end
section
namespace Go.Proofs.Ythniclbmpeklmaa.KJf
open Go.RowKit Go.Proofs.YthniclbmpeklmaaW.PrintWords Go.Proofs.Ythniclbmpeklmaa.Ju
open Go.Proofs.YthniclbmpeklmaaW.PrintWords renaming Ev → PE
set_option linter.unusedVariables false
set_option linter.unusedSimpArgs false
theorem Ev.self {α : Type} {g : Nat → Option α} {r : α} (h : ∀ k, g (k + 1) = some r) : PE g r := PE.step h (PE.now r)
theorem w64 {i n : Nat} (h : i < n) (hn : n ≤ 1000000) : wrap64 ((i : Int) + 1) = ((i + 1 : Nat) : Int) := by unfold wrap64; omega
abbrev S127.h (x : S127) : Au.Ha := (x.f0.f0, x.f0.f1)
def isH (h : Au.Ha) (x : S127) : Bool := x.f0.f0 == h.1 && x.f0.f1 == h.2
theorem isH_iff {h : Au.Ha} {x : S127} : isH h x = true ↔ x.h = h := by
 unfold isH
 rw [Bool.and_eq_true, beq_iff_eq, beq_iff_eq]
 exact ⟨fun ⟨a, b⟩ => Prod.ext a b, fun e => ⟨congrArg Prod.fst e, congrArg Prod.snd e⟩⟩
def findR (l : List S127) (h : Au.Ha) : Int := match l.findIdx? (isH h) with | some i => (i : Int) | none => -1
def statR (l : List S127) (h : Au.Ha) : Int := match l.find? (isH h) with | some x => x.f1 | none => 0
def dlR (l : List S127) (h : Au.Ha) : Int := match l.find? (isH h) with | some x => x.f2 | none => 0
def turnR (l : List S127) (h : Au.Ha) (s : Int) : List S127 := l.map fun x => if x.h = h then { x with f1 := s } else x
def freeR (l : List S127) (h : Au.Ha) : Bool := l.all fun x => !(x.f0.f0 == h.1 && (x.f1 == 1 || decide (x.f0.f1 ≥ h.2)))
def armR (l : List S127) (h : Au.Ha) (d : Int) : List S127 := l ++ [⟨⟨h.1, h.2⟩, 1, d⟩]
theorem rd_at {l : List S127} {i : Nat} (h : i < l.length) : rd_T127 l (i : Int) = l[i] := by
 show l.getD i z127 = _
 rw [List.getD_eq_getElem?_getD, List.getElem?_eq_getElem h]
 rfl
theorem find_at {l : List S127} {h : Au.Ha} {i : Nat} (hf : l.findIdx? (isH h) = some i) : ∃ hi : i < l.length, isH h l[i] = true ∧ l.find? (isH h) = some l[i] ∧ ∀ j (hj : j < i), isH h (l[j]'(by omega)) = false := by
 obtain ⟨hi, h1, h2⟩ := List.findIdx?_eq_some_iff_getElem.1 hf
 refine ⟨hi, h1, ?_, fun j hj => by simpa using h2 j hj⟩
 rw [List.find?_eq_some_iff_getElem]
 exact ⟨h1, i, hi, rfl, fun j hj => by simpa using h2 j hj⟩
theorem find_no {l : List S127} {h : Au.Ha} (hf : l.findIdx? (isH h) = none) : l.find? (isH h) = none ∧ ∀ x ∈ l, isH h x = false := by
 have h1 := List.findIdx?_eq_none_iff.1 hf
 exact ⟨List.find?_eq_none.2 fun x hx => by simp [h1 x hx], h1⟩
theorem nodup_at {l : List S127} (hd : (l.map S127.h).Nodup) {i j : Nat} (hi : i < l.length) (hj : j < l.length) (he : l[i].h = l[j].h) : i = j := by
 have h := List.pairwise_iff_getElem.1 hd
 rcases Nat.lt_trichotomy i j with q | q | q
 ·exact absurd (by rw [List.getElem_map, List.getElem_map]; exact he) (h i j (by simpa using hi) (by simpa using hj) q)
 ·exact q
 ·exact absurd (by rw [List.getElem_map, List.getElem_map]; exact he.symm) (h j i (by simpa using hj) (by simpa using hi) q)
theorem find_is (l : List S127) (hn : l.length ≤ 1000000) (c : Int) (h : Au.Ha) : PE (fun k => knellref12_Find.f k c l h.1 h.2) (findR l h) := by
 have go : ∀ d i, i + d = l.length → (∀ j (hj : j < i) (hl : j < l.length), isH h l[j] = false) → PE (fun k => knellref12_Find.l0 k (i : Int) c l h.1 h.2) (findR l h) := by
  intro d
  induction d with
  | zero =>
   intro i hd hp
   have hno : l.findIdx? (isH h) = none := List.findIdx?_eq_none_iff.2 fun x hx => by
    obtain ⟨j, hj, rfl⟩ := List.getElem_of_mem hx
    exact hp j (by omega) hj
   refine Ev.self fun k => ?_
   rw [knellref12_Find.l0, if_neg (by omega)]
   unfold findR
   rw [hno]
  | succ d ih =>
   intro i hd hp
   have hi : i < l.length := by omega
   cases hq : isH h l[i] with
   | true =>
    have hyes : l.findIdx? (isH h) = some i := List.findIdx?_eq_some_iff_getElem.2 ⟨hi, hq, fun j hj => by simpa using hp j hj (by omega)⟩
    refine Ev.self fun k => ?_
    rw [knellref12_Find.l0, if_pos (by omega), if_pos (by omega), rd_at hi, if_pos (show (l[i].f0.f0 == h.1 && l[i].f0.f1 == h.2) = true from hq)]
    unfold findR
    rw [hyes]
   | false =>
    refine PE.step (fun k => ?_) (ih (i + 1) (by omega) (fun j hj hl => by
     rcases Nat.lt_or_ge j i with z | z
     ·exact hp j z hl
     ·obtain rfl : j = i := by omega
      exact hq))
    rw [knellref12_Find.l0, if_pos (by omega), if_pos (by omega), rd_at hi, if_neg (by rw [show (l[i].f0.f0 == h.1 && l[i].f0.f1 == h.2) = isH h l[i] from rfl, hq]; simp), w64 hi hn]
 exact go l.length 0 (by omega) (fun j hj => by omega)
theorem stat_is (l : List S127) (hn : l.length ≤ 1000000) (c : Int) (h : Au.Ha) : PE (fun k => knellref12_Status.f k c l h.1 h.2) (statR l h) := by
 unfold knellref12_Status.f
 refine PE.bind (find_is l hn c h) (PE.congr (fun k => ?_) (PE.now _))
 unfold findR statR
 cases hf : l.findIdx? (isH h) with
 | none => rw [(find_no hf).1]; simp
 | some i =>
  obtain ⟨hi, h1, h2, _⟩ := find_at hf
  rw [h2]
  simp only
  rw [if_neg (by omega), if_pos (by omega), if_pos (by omega), rd_at hi]
theorem turn_is (l : List S127) (hn : l.length ≤ 1000000) (c : Int) (h : Au.Ha) (s : Int) (hd : (l.map S127.h).Nodup) (hx : ∃ x ∈ l, x.h = h) : PE (fun k => knellref12_turn.f k c l h.1 h.2 s) (c, turnR l h s) := by
 unfold knellref12_turn.f
 simp only [Option.bind_some, List.nil_append, List.length_nil, Nat.zero_add]
 refine PE.congr (fun k => by rw [if_pos (by omega)]) (PE.bind (find_is l hn c h) (PE.congr (fun k => ?_) (PE.now _)))
 unfold findR
 cases hf : l.findIdx? (isH h) with
 | none =>
  obtain ⟨x, hx, hh⟩ := hx
  have := (find_no hf).2 x hx
  rw [isH_iff.2 hh] at this
  cases this
 | some i =>
  obtain ⟨hi, h1, _, _⟩ := find_at hf
  simp only
  rw [if_pos (by omega), if_pos (by omega), rd_at hi, Int.toNat_natCast]
  congr 2
  unfold turnR
  apply List.ext_getElem
  ·rw [List.length_set, List.length_map]
  intro j h3 h4
  rw [List.getElem_map, List.getElem_set]
  by_cases e : i = j
  ·subst e
   rw [if_pos rfl, if_pos (isH_iff.1 h1)]
  ·rw [if_neg e, if_neg]
   intro q
   have hj : j < l.length := by rw [List.length_set] at h3; exact h3
   have hii := isH_iff.1 h1
   exact e (nodup_at hd hi hj (hii.trans q.symm))
theorem free_is (l : List S127) (hn : l.length ≤ 1000000) (c : Int) (h : Au.Ha) : PE (fun k => knellref12_free.f k c l h.1 h.2) (freeR l h) := by
 have go : ∀ d i, i + d = l.length → (∀ j (hj : j < i) (hl : j < l.length), (l[j].f0.f0 == h.1 && (l[j].f1 == 1 || decide (l[j].f0.f1 ≥ h.2))) = false) → PE (fun k => knellref12_free.l0 k (i : Int) c l h.1 h.2) (freeR l h) := by
  intro d
  induction d with
  | zero =>
   intro i hd hp
   have hall : freeR l h = true := by
    unfold freeR
    rw [List.all_eq_true]
    intro x hx
    obtain ⟨j, hj, rfl⟩ := List.getElem_of_mem hx
    rw [hp j (by omega) hj]; rfl
   refine Ev.self fun k => ?_
   rw [knellref12_free.l0, if_neg (by omega), hall]
  | succ d ih =>
   intro i hd hp
   have hi : i < l.length := by omega
   have no : (l[i].f0.f0 == h.1 && (l[i].f1 == 1 || decide (l[i].f0.f1 ≥ h.2))) = true → freeR l h = false := fun q => by
    unfold freeR
    rw [List.all_eq_false]
    exact ⟨l[i], List.getElem_mem hi, by rw [q]; simp⟩
   have next : (l[i].f0.f0 == h.1 && (l[i].f1 == 1 || decide (l[i].f0.f1 ≥ h.2))) = false → PE (fun k => knellref12_free.l0 k (wrap64 ((i : Int) + 1)) c l h.1 h.2) (freeR l h) := fun q => by
    rw [w64 hi hn]
    exact ih (i + 1) (by omega) (fun j hj hl => by
     rcases Nat.lt_or_ge j i with z | z
     ·exact hp j z hl
     ·obtain rfl : j = i := by omega
      exact q)
   by_cases e1 : l[i].f0.f0 = h.1
   ·by_cases e2 : l[i].f1 = 1
    ·rw [no (by simp [e1, e2])]
     exact Ev.self fun k => by rw [knellref12_free.l0, if_pos (by omega), if_pos (by omega), rd_at hi, if_pos e1, if_pos e2]
    ·by_cases e3 : l[i].f0.f1 ≥ h.2
     ·rw [no (by simp [e1, e3])]
      exact Ev.self fun k => by rw [knellref12_free.l0, if_pos (by omega), if_pos (by omega), rd_at hi, if_pos e1, if_neg e2, if_pos e3]
     ·exact PE.step (fun k => by rw [knellref12_free.l0, if_pos (by omega), if_pos (by omega), rd_at hi, if_pos e1, if_neg e2, if_neg e3]) (next (by simp [e2, e3]))
   ·exact PE.step (fun k => by rw [knellref12_free.l0, if_pos (by omega), if_pos (by omega), rd_at hi, if_neg e1]) (next (by simp [e1]))
 exact go l.length 0 (by omega) (fun j hj => by omega)
theorem arm_is (l : List S127) (hn : l.length ≤ 1000000) (c : Int) (h : Au.Ha) (d : Int) : knellref12_arm.f c l h.1 h.2 d = some (c, armR l h d) := by
 unfold knellref12_arm.f armR
 simp only [Option.bind_some, List.nil_append, List.length_nil, Nat.zero_add, List.length_singleton]
 rw [if_pos (by omega), if_pos (by omega)]
structure Rm where
 clk : Int
 L : List S127
def rpF (m : Rm) (e : Au.Ev) : Rm × Int :=
 if e.op = 1 then (if e.er = 0 then (if freeR m.L e.new = true then ({ m with L := armR m.L e.new e.t }, 0) else (m, 6)) else (m, 0))
 else if e.op = 2 then (if (statR m.L e.h == 1) = e.y then (if e.y = true then ({ m with L := turnR m.L e.h 3 }, 0) else (m, 0)) else (m, 6))
 else if e.op = 3 then (if e.er = 4 then (if statR m.L e.h = 1 then (m, 6) else (m, 0)) else if e.er = 0 then (if statR m.L e.h = 1 ∧ e.nn = e.hn ∧ e.ng = wrap64 (e.hg + 1) then ({ m with L := armR (turnR m.L e.h 4) e.new e.t }, 0) else (m, 6)) else (m, 0))
 else (if e.er = 4 then (if statR m.L e.h = 1 then (m, 6) else (m, 0)) else if e.er = 0 then (if statR m.L e.h = 1 then (m, 0) else (m, 6)) else (m, 0))
def rdoF (m : Rm) (e : Au.Ev) : Rm × Int :=
 if rightJ e = false ∨ e.k = 2 ∨ e.k = 5 then (m, 8)
 else if e.k = 1 then (if e.t = wrap64 (m.clk + 1) then ({ m with clk := e.t }, 0) else (m, 6))
 else if e.k = 4 then (if statR m.L e.h = 1 ∧ dlR m.L e.h ≤ e.t ∧ e.t ≤ m.clk then ({ m with L := turnR m.L e.h 2 }, 0) else (m, 6))
 else rpF m e
structure Sim (m : Md) (r : Rm) : Prop where
 clk : m.clk = r.clk
 nd : (r.L.map S127.h).Nodup
 on : ∀ x ∈ r.L, ∃ d, m.fat x.h = some (x.f1, d) ∧ (x.f1 = 1 → d = x.f2)
 back : ∀ h, m.fat h ≠ none → ∃ x ∈ r.L, x.h = h
 lst : ∀ n g, m.lst n = some g → m.fat (n, g) ≠ none
 inv : MInv m
theorem Sim0 : Sim md0 ⟨0, []⟩ := ⟨rfl, by simp, fun x hx => (by cases hx), fun h q => absurd rfl q, fun n g q => (by cases q), MInv0⟩
theorem find_mem {l : List S127} {x : S127} (hd : (l.map S127.h).Nodup) (hx : x ∈ l) : l.find? (isH x.h) = some x := by
 cases hf : l.findIdx? (isH x.h) with
 | none =>
  have := (find_no hf).2 x hx
  rw [isH_iff.2 rfl] at this; cases this
 | some i =>
  obtain ⟨hi, h1, h2, _⟩ := find_at hf
  obtain ⟨j, hj, rfl⟩ := List.getElem_of_mem hx
  have hii := isH_iff.1 h1
  obtain rfl := nodup_at hd hi hj hii
  exact h2
theorem Sim.st {m : Md} {r : Rm} (h : Sim m r) (x : Au.Ha) : m.st x = statR r.L x ∧ (m.st x = 1 → m.dl x = dlR r.L x ∧ ∃ y ∈ r.L, y.h = x) := by
 unfold Md.st Md.dl statR dlR
 cases hf : m.fat x with
 | none =>
  have hno : r.L.find? (isH x) = none := List.find?_eq_none.2 fun y hy q => by
   obtain ⟨d, h1, _⟩ := h.on y hy
   rw [isH_iff.1 q, hf] at h1; cases h1
  rw [hno]
  exact ⟨rfl, fun q => by simp at q⟩
 | some v =>
  obtain ⟨y, hy, rfl⟩ := h.back x (by rw [hf]; simp)
  obtain ⟨d, h1, h2⟩ := h.on y hy
  rw [find_mem h.nd hy]
  rw [hf] at h1
  obtain rfl := Option.some.inj h1
  exact ⟨rfl, fun q => ⟨h2 q, y, hy, rfl⟩⟩
theorem turn_h (l : List S127) (h : Au.Ha) (s : Int) : (turnR l h s).map S127.h = l.map S127.h := by
 unfold turnR
 rw [List.map_map]
 apply List.map_congr_left
 intro x _
 simp only [Function.comp]
 split <;> rfl
theorem Sim.turn {m : Md} {r : Rm} (h : Sim m r) {x : Au.Ha} {s : Int} (hs : s ≠ 1) (hx : m.fat x ≠ none) : Sim (m.end_ x s) { r with L := turnR r.L x s } := by
 refine ⟨h.clk, by show ((turnR r.L x s).map S127.h).Nodup; rw [turn_h]; exact h.nd, fun y hy => ?_, fun z hz => ?_, fun n g hg => ?_, h.inv.end_ hx hs⟩
 ·obtain ⟨z, hz, rfl⟩ := List.mem_map.1 hy
  by_cases e : z.h = x
  ·rw [if_pos e, end_fat]
   show ∃ d, (if z.h = x then some (s, 0) else m.fat z.h) = some (s, d) ∧ _
   rw [if_pos e]
   exact ⟨0, rfl, fun q => absurd q hs⟩
  ·rw [if_neg e, end_fat, if_neg e]
   exact h.on z hz
 ·have hz' : m.fat z ≠ none := by
   rw [end_fat] at hz
   by_cases e : z = x
   ·rw [e]; exact hx
   ·rw [if_neg e] at hz; exact hz
  obtain ⟨y, hy, rfl⟩ := h.back z hz'
  refine ⟨_, List.mem_map.2 ⟨y, hy, rfl⟩, ?_⟩
  split <;> rfl
 ·have := h.lst n g hg
  rw [end_fat]
  split
  ·simp
  ·exact this
theorem Sim.arm {m : Md} {r : Rm} (h : Sim m r) {x : Au.Ha} {d : Int} (hx : m.fat x = none) (hi : MInv (m.arm x d)) : Sim (m.arm x d) { r with L := armR r.L x d } := by
 have hno : ∀ y ∈ r.L, y.h ≠ x := fun y hy e => by
  obtain ⟨d', h1, _⟩ := h.on y hy
  rw [e, hx] at h1; cases h1
 refine ⟨h.clk, ?_, fun y hy => ?_, fun z hz => ?_, fun n g hg => ?_, hi⟩
 ·show ((armR r.L x d).map S127.h).Nodup
  unfold armR
  rw [List.map_append, List.nodup_append]
  refine ⟨h.nd, by simp, fun a ha b hb => ?_⟩
  obtain ⟨y, hy, rfl⟩ := List.mem_map.1 ha
  obtain rfl := List.mem_singleton.1 hb
  exact hno y hy
 ·rcases List.mem_append.1 hy with hy | hy
  ·rw [arm_fat, if_neg (hno y hy)]; exact h.on y hy
  ·obtain rfl := List.mem_singleton.1 hy
   rw [arm_fat, if_pos rfl]
   exact ⟨d, rfl, fun _ => rfl⟩
 ·rw [arm_fat] at hz
  by_cases e : z = x
  ·exact ⟨⟨⟨x.1, x.2⟩, 1, d⟩, List.mem_append.2 (.inr (List.mem_singleton.2 rfl)), e.symm⟩
  ·rw [if_neg e] at hz
   obtain ⟨y, hy, he⟩ := h.back z hz
   exact ⟨y, List.mem_append.2 (.inl hy), he⟩
 ·rw [arm_lst] at hg
  rw [arm_fat]
  split
  ·simp
  ·rename_i hne
   by_cases e : n = x.1
   ·rw [if_pos e] at hg
    have := Option.some.inj hg
    exact absurd (Prod.ext e this.symm) hne
   ·rw [if_neg e] at hg; exact h.lst n g hg
theorem Sim.free {m : Md} {r : Rm} (h : Sim m r) (x : Au.Ha) : m.startOk x = freeR r.L x := by
 rw [Bool.eq_iff_iff]
 unfold freeR
 rw [List.all_eq_true]
 constructor
 ·intro hs y hy
  obtain ⟨a, b, c⟩ := h.inv.start hs
  obtain ⟨d, h1, _⟩ := h.on y hy
  obtain ⟨g, hg, hle⟩ := h.inv.top y.h (by rw [h1]; simp)
  by_cases e : y.f0.f0 = x.1
  ·have hlt := a g (by rw [← e]; exact hg)
   have hst : y.f1 ≠ 1 := fun q => b y.h e (by unfold Md.st; rw [h1]; exact q)
   simp [e, hst]
   have : y.f0.f1 ≤ g := hle
   omega
  ·simp [e]
 ·intro hs
  unfold Md.startOk
  cases hl : m.lst x.1 with
  | none => rfl
  | some g =>
   obtain ⟨y, hy, he⟩ := h.back (x.1, g) (h.lst x.1 g hl)
   have e1 : y.f0.f0 = x.1 := congrArg Prod.fst he
   have e2 : y.f0.f1 = g := congrArg Prod.snd he
   have := hs y hy
   simp [e1, e2] at this
   obtain ⟨d, h1, _⟩ := h.on y hy
   have hst : m.st (x.1, g) = y.f1 := by unfold Md.st; rw [← he, h1]; rfl
   simp only [Option.isSome_some, Bool.not_true, Bool.false_or, Option.getD_some, Bool.and_eq_true, bne_iff_ne, decide_eq_true_eq]
   rw [hst]
   exact this
theorem Sim.step {m : Md} {r : Rm} (h : Sim m r) (e : Au.Ev) (hw : (Lit.int .i64 e.hg).wf = true) : (doF m e).2 = (rdoF r e).2 ∧ Sim (doF m e).1 (rdoF r e).1 := by
 obtain ⟨hst, hdl⟩ := h.st e.h
 have hck := h.clk
 cases hr : rightJ e with
 | false =>
  have hL : doF m e = (m, 8) := by simp [doF, pointF, hr]
  have hR : rdoF r e = (r, 8) := by simp [rdoF, rpF, hr]
  rw [hL, hR]
  exact ⟨rfl, h⟩
 | true =>
  rcases right_k hr with hk | hk | hk | hk | hk
  ·by_cases ht : e.t = wrap64 (r.clk + 1)
   ·have hL : doF m e = ({ m with clk := e.t }, 0) := by simp [doF, pointF, hr, hk, hck, ht]
    have hR : rdoF r e = ({ r with clk := e.t }, 0) := by simp [rdoF, rpF, hr, hk, hck, ht]
    rw [hL, hR]
    exact ⟨rfl, ⟨rfl, h.nd, h.on, h.back, h.lst, ⟨h.inv.top, h.inv.arm⟩⟩⟩
   ·have hL : doF m e = (m, 6) := by simp [doF, pointF, hr, hk, hck, ht]
    have hR : rdoF r e = (r, 6) := by simp [rdoF, rpF, hr, hk, hck, ht]
    rw [hL, hR]
    exact ⟨rfl, h⟩
  ·have hL : doF m e = (m, 8) := by simp [doF, pointF, hr, hk]
   have hR : rdoF r e = (r, 8) := by simp [rdoF, rpF, hr, hk]
   rw [hL, hR]
   exact ⟨rfl, h⟩
  ·obtain ⟨o1, o4, hng, _⟩ := right_op hr hk
   by_cases op1 : e.op = 1
   ·by_cases e0 : e.er = 0
    ·have hfr := h.free e.new
     cases hf : freeR r.L e.new with
     | true =>
      rw [hf] at hfr
      obtain ⟨a, b, c⟩ := h.inv.start hfr
      have hL : doF m e = (m.arm e.new e.t, 0) := by simp [doF, pointF, hr, hk, op1, e0, hfr, hf]
      have hR : rdoF r e = ({ r with L := armR r.L e.new e.t }, 0) := by simp [rdoF, rpF, hr, hk, op1, e0, hfr, hf]
      rw [hL, hR]
      exact ⟨rfl, h.arm c (h.inv.arm_ a b)⟩
     | false =>
      rw [hf] at hfr
      have hL : doF m e = (m, 6) := by simp [doF, pointF, hr, hk, op1, e0, hfr, hf]
      have hR : rdoF r e = (r, 6) := by simp [rdoF, rpF, hr, hk, op1, e0, hfr, hf]
      rw [hL, hR]
      exact ⟨rfl, h⟩
    ·have hL : doF m e = (m, 0) := by simp [doF, pointF, hr, hk, op1, e0]
     have hR : rdoF r e = (r, 0) := by simp [rdoF, rpF, hr, hk, op1, e0]
     rw [hL, hR]
     exact ⟨rfl, h⟩
   by_cases ha : statR r.L e.h = 1
   ·have hm1 : m.st e.h = 1 := hst.trans ha
    by_cases op2 : e.op = 2
    ·cases hy : e.y with
     | true =>
      have hL : doF m e = (m.end_ e.h 3, 0) := by simp [doF, pointF, hr, hk, op2, hy, ha, hm1]
      have hR : rdoF r e = ({ r with L := turnR r.L e.h 3 }, 0) := by simp [rdoF, rpF, hr, hk, op2, hy, ha, hm1]
      rw [hL, hR]
      exact ⟨rfl, h.turn (by omega) (st_fat hm1)⟩
     | false =>
      have hL : doF m e = (m, 6) := by simp [doF, pointF, hr, hk, op2, hy, ha, hm1]
      have hR : rdoF r e = (r, 6) := by simp [rdoF, rpF, hr, hk, op2, hy, ha, hm1]
      rw [hL, hR]
      exact ⟨rfl, h⟩
    by_cases e4 : e.er = 4
    ·by_cases op3 : e.op = 3
     ·have hL : doF m e = (m, 6) := by simp [doF, pointF, hr, hk, op3, e4, ha, hm1]
      have hR : rdoF r e = (r, 6) := by simp [rdoF, rpF, hr, hk, op3, e4, ha, hm1]
      rw [hL, hR]
      exact ⟨rfl, h⟩
     ·have op4 : e.op = 4 := by omega
      have hL : doF m e = (m, 6) := by simp [doF, pointF, hr, hk, op4, e4, ha, hm1]
      have hR : rdoF r e = (r, 6) := by simp [rdoF, rpF, hr, hk, op4, e4, ha, hm1]
      rw [hL, hR]
      exact ⟨rfl, h⟩
    by_cases e0 : e.er = 0
    ·by_cases op3 : e.op = 3
     ·by_cases hc : e.nn = e.hn ∧ e.ng = wrap64 (e.hg + 1)
      ·have hre := h.inv.rearm (d := e.t) hm1 (y := e.new) hc.1 (wrap_next hw hng hc.2)
       have h1 := h.turn (s := 4) (by omega) (st_fat hm1)
       have hne : e.new ≠ e.h := fun q => st_fat hm1 (by rw [← q]; exact hre.1)
       have hc1 := hc.1
       have hc2 := hc.2
       have hL : doF m e = ((m.end_ e.h 4).arm e.new e.t, 0) := by unfold doF pointF; rw [if_neg (by rw [hr]; simp), if_neg (by omega), if_neg (by omega), if_pos hk, if_neg (by omega), if_neg (by omega), if_neg (by omega), if_neg op1, if_neg (by omega), if_pos ⟨hm1, hc⟩]
       have hR : rdoF r e = ({ r with L := armR (turnR r.L e.h 4) e.new e.t }, 0) := by unfold rdoF rpF; rw [if_neg (by rw [hr]; simp; omega), if_neg (by omega), if_neg (by omega), if_neg op1, if_neg op2, if_pos op3, if_neg e4, if_pos e0, if_pos ⟨ha, hc⟩]
       rw [hL, hR]
       exact ⟨rfl, h1.arm (by rw [end_fat, if_neg hne]; exact hre.1) hre.2⟩
      ·have hL : doF m e = (m, 6) := by unfold doF pointF; rw [if_neg (by rw [hr]; simp), if_neg (by omega), if_neg (by omega), if_pos hk, if_neg (by omega), if_neg (by omega), if_neg (by omega), if_neg op1, if_neg (by omega), if_neg (fun q => hc q.2)]
       have hR : rdoF r e = (r, 6) := by unfold rdoF rpF; rw [if_neg (by rw [hr]; simp; omega), if_neg (by omega), if_neg (by omega), if_neg op1, if_neg op2, if_pos op3, if_neg e4, if_pos e0, if_neg (fun q => hc q.2)]
       rw [hL, hR]
       exact ⟨rfl, h⟩
     ·have op4 : e.op = 4 := by omega
      have hL : doF m e = (m, 0) := by simp [doF, pointF, hr, hk, op4, e0, ha, hm1]
      have hR : rdoF r e = (r, 0) := by simp [rdoF, rpF, hr, hk, op4, e0, ha, hm1]
      rw [hL, hR]
      exact ⟨rfl, h⟩
    ·have hL : doF m e = (m, 0) := by simp [doF, pointF, hr, hk, op1, op2, e4, e0]
     have hR : rdoF r e = (r, 0) := by simp [rdoF, rpF, hr, hk, op1, op2, e4, e0]
     rw [hL, hR]
     exact ⟨rfl, h⟩
   ·have hm1 : ¬ m.st e.h = 1 := fun q => ha (hst.symm.trans q)
    by_cases op2 : e.op = 2
    ·cases hy : e.y with
     | true =>
      have hL : doF m e = (m, 6) := by simp [doF, pointF, hr, hk, op2, hy, ha, hm1]
      have hR : rdoF r e = (r, 6) := by simp [rdoF, rpF, hr, hk, op2, hy, ha, hm1]
      rw [hL, hR]
      exact ⟨rfl, h⟩
     | false =>
      have hL : doF m e = (m, 0) := by simp [doF, pointF, hr, hk, op2, hy, ha, hm1]
      have hR : rdoF r e = (r, 0) := by simp [rdoF, rpF, hr, hk, op2, hy, ha, hm1]
      rw [hL, hR]
      exact ⟨rfl, h⟩
    by_cases e4 : e.er = 4
    ·by_cases op3 : e.op = 3
     ·have hL : doF m e = (m, 0) := by simp [doF, pointF, hr, hk, op3, e4, ha, hm1]
      have hR : rdoF r e = (r, 0) := by simp [rdoF, rpF, hr, hk, op3, e4, ha, hm1]
      rw [hL, hR]
      exact ⟨rfl, h⟩
     ·have op4 : e.op = 4 := by omega
      have hL : doF m e = (m, 0) := by simp [doF, pointF, hr, hk, op4, e4, ha, hm1]
      have hR : rdoF r e = (r, 0) := by simp [rdoF, rpF, hr, hk, op4, e4, ha, hm1]
      rw [hL, hR]
      exact ⟨rfl, h⟩
    by_cases e0 : e.er = 0
    ·by_cases op3 : e.op = 3
     ·have hL : doF m e = (m, 6) := by simp [doF, pointF, hr, hk, op3, e0, ha, hm1]
      have hR : rdoF r e = (r, 6) := by simp [rdoF, rpF, hr, hk, op3, e0, ha, hm1]
      rw [hL, hR]
      exact ⟨rfl, h⟩
     ·have op4 : e.op = 4 := by omega
      have hL : doF m e = (m, 6) := by simp [doF, pointF, hr, hk, op4, e0, ha, hm1]
      have hR : rdoF r e = (r, 6) := by simp [rdoF, rpF, hr, hk, op4, e0, ha, hm1]
      rw [hL, hR]
      exact ⟨rfl, h⟩
    ·have hL : doF m e = (m, 0) := by simp [doF, pointF, hr, hk, op1, op2, e4, e0]
     have hR : rdoF r e = (r, 0) := by simp [rdoF, rpF, hr, hk, op1, op2, e4, e0]
     rw [hL, hR]
     exact ⟨rfl, h⟩
  ·by_cases ha : statR r.L e.h = 1
   ·have hm1 : m.st e.h = 1 := hst.trans ha
    have hdd := (hdl hm1).1
    by_cases hc : dlR r.L e.h ≤ e.t ∧ e.t ≤ r.clk
    ·have hL : doF m e = (m.end_ e.h 2, 0) := by simp [doF, pointF, hr, hk, hck, ha, hm1, hdd, hc]
     have hR : rdoF r e = ({ r with L := turnR r.L e.h 2 }, 0) := by simp [rdoF, rpF, hr, hk, hck, ha, hm1, hdd, hc]
     rw [hL, hR]
     exact ⟨rfl, h.turn (by omega) (st_fat hm1)⟩
    ·have hL : doF m e = (m, 6) := by unfold doF; rw [if_neg (by rw [hr]; simp), if_neg (by omega), if_pos hk, if_neg (by rw [hdd, hck]; exact fun q => hc q.2)]
     have hR : rdoF r e = (r, 6) := by unfold rdoF; rw [if_neg (by rw [hr]; simp; omega), if_neg (by omega), if_pos hk, if_neg (fun q => hc q.2)]
     rw [hL, hR]
     exact ⟨rfl, h⟩
   ·have hm1 : ¬ m.st e.h = 1 := fun q => ha (hst.symm.trans q)
    have hL : doF m e = (m, 6) := by simp [doF, pointF, hr, hk, ha, hm1]
    have hR : rdoF r e = (r, 6) := by simp [rdoF, rpF, hr, hk, ha, hm1]
    rw [hL, hR]
    exact ⟨rfl, h⟩
  ·have hL : doF m e = (m, 8) := by simp [doF, pointF, hr, hk]
   have hR : rdoF r e = (r, 8) := by simp [rdoF, rpF, hr, hk]
   rw [hL, hR]
   exact ⟨rfl, h⟩
end Go.Proofs.Ythniclbmpeklmaa.KJf
end
section
namespace Go.Proofs.Ythniclbmpeklmaa.KJf
open Go.RowKit Go.Proofs.YthniclbmpeklmaaW.PrintWords Go.Proofs.Ythniclbmpeklmaa.Ju
open Go.Proofs.YthniclbmpeklmaaW.PrintWords renaming Ev → PE
set_option linter.unusedVariables false
set_option linter.unusedSimpArgs false
def ofE (e : Au.Ev) : S50 := ⟨e.k, e.wk, e.op, ⟨e.hn, e.hg⟩, ⟨e.nn, e.ng⟩, e.t, e.a, e.u, e.y, e.er⟩
def toE (x : S50) : Au.Ev := ⟨x.f0, x.f1, x.f2, x.f3.f0, x.f3.f1, x.f4.f0, x.f4.f1, x.f5, x.f6, x.f7, x.f8, x.f9⟩
structure Rb where
 m : Rm
 W : List S66
def rptOk (clk : Int) (w : S66) (e : Au.Ev) : Bool :=
 w.f0.f2 == e.op && !w.f2 && (e.op == 1 || (e.hn == w.f0.f3.f0 && e.hg == w.f0.f3.f1)) && (!(e.er == 0 && (e.op == 1 || e.op == 3)) || (decide (w.f1 ≤ e.t - w.f0.f5) && decide (e.t - w.f0.f5 ≤ clk)))
def rans (w : S66) (e : Au.Ev) : Bool := w.f0.f2 == e.op && (!decide (e.op ≤ 4) || (w.f2 && (w.f3.f4.f0 == e.nn && w.f3.f4.f1 == e.ng) && w.f3.f8 == e.y && w.f3.f9 == e.er))
def rcan (b : Rb) (w : S66) (e : Au.Ev) : Rb × Int :=
 if (rdoF b.m e).2 = 0 then (⟨(rdoF b.m e).1, if e.k = 3 then b.W.set e.wk.toNat { w with f2 := true, f3 := ofE e } else b.W⟩, 0) else (b, (rdoF b.m e).2)
def rhearF (b : Rb) (e : Au.Ev) : Rb × Int :=
 if rightJ e = false ∨ (b.W.length : Int) ≤ e.wk then (b, 8)
 else if e.k = 1 then (⟨(rdoF b.m e).1, b.W⟩, (rdoF b.m e).2)
 else if e.k = 2 then (if (rd_T66 b.W e.wk).f0.f2 = 0 then (⟨b.m, b.W.set e.wk.toNat ⟨ofE e, b.m.clk, false, z50⟩⟩, 0) else (b, 6))
 else if e.k = 3 then (if rptOk b.m.clk (rd_T66 b.W e.wk) e = true then rcan b (rd_T66 b.W e.wk) e else (b, 6))
 else if e.k = 4 then (if (rd_T66 b.W e.wk).f0.f2 = 5 ∧ (rd_T66 b.W e.wk).f1 ≤ e.t then rcan b (rd_T66 b.W e.wk) e else (b, 6))
 else if rans (rd_T66 b.W e.wk) e = true then (⟨b.m, b.W.set e.wk.toNat z66⟩, 0) else (b, 6)
def wkOf (x : S66) : Option Wk := if x.f0.f2 = 0 then none else some ⟨x.f0.f2, x.f0.f3.f0, x.f0.f3.f1, x.f0.f5, x.f1, if x.f2 = true then some (ptOf (toE x.f3)) else none⟩
structure BSim (n : Nat) (b : Be) (r : Rb) : Prop where
 nw : b.nw = (r.W.length : Int)
 sim : Sim b.m r.m
 wk : ∀ (i : Nat) x, r.W[i]? = some x → b.wks (i : Int) = wkOf x
 c0 : 0 ≤ r.m.clk
 cn : r.m.clk ≤ (n : Int)
 len : r.m.L.length ≤ n
 beg : ∀ x ∈ r.W, 0 ≤ x.f1 ∧ x.f1 ≤ (n : Int)
theorem right_wk {e : Au.Ev} (h : rightJ e = true) : 0 ≤ e.wk := by
 unfold rightJ Ev.evRight at h
 simp at h
 omega
theorem right_t {e : Au.Ev} (h : rightJ e = true) (hk : e.k = 3 ∨ e.k = 4 ∨ e.k = 1) : 0 ≤ e.t := by
 unfold rightJ Ev.evRight at h
 rcases hk with q | q | q <;> rw [q] at h <;> simp at h <;> omega
theorem right_op2 {e : Au.Ev} (h : rightJ e = true) (hk : e.k = 2 ∨ e.k = 5) : 1 ≤ e.op := by
 unfold rightJ Ev.evRight Ev.kindB at h
 simp at h
 omega
theorem rdo_fail {m : Rm} {e : Au.Ev} (h : (rdoF m e).2 ≠ 0) : (rdoF m e).1 = m := by
 unfold rdoF rpF at h ⊢
 repeat' split
 all_goals first
  | rfl
  | (simp_all; done)
theorem rdo_clk {m : Rm} {e : Au.Ev} (h0 : 0 ≤ m.clk) (h1 : m.clk ≤ 1000000) : 0 ≤ (rdoF m e).1.clk ∧ (rdoF m e).1.clk ≤ m.clk + 1 := by
 unfold rdoF rpF
 repeat' split
 all_goals first
  | (simp only; omega)
  | (rename_i q; simp only; unfold wrap64 at q; omega)
theorem rdo_len {m : Rm} {e : Au.Ev} : (rdoF m e).1.L.length ≤ m.L.length + 1 := by
 unfold rdoF rpF armR turnR
 repeat' split
 all_goals (simp)
theorem rd_at6 {l : List S66} {i : Int} (h0 : 0 ≤ i) (h1 : i < (l.length : Int)) : ∃ x, l[i.toNat]? = some x ∧ rd_T66 l i = x ∧ x ∈ l := by
 obtain ⟨n, rfl⟩ : ∃ n : Nat, i = (n : Int) := ⟨i.toNat, by omega⟩
 have hn : n < l.length := by omega
 refine ⟨l[n], by rw [Int.toNat_natCast]; exact List.getElem?_eq_getElem hn, ?_, List.getElem_mem hn⟩
 unfold rd_T66
 rw [Int.toNat_natCast, List.getD_eq_getElem?_getD, List.getElem?_eq_getElem hn]
 rfl
section
variable {n : Nat} {b : Be} {r : Rb}
theorem BSim.up (h : BSim n b r) : BSim (n + 1) b r := ⟨h.nw, h.sim, h.wk, h.c0, by have := h.cn; omega, by have := h.len; omega, fun x hx => by have := h.beg x hx; omega⟩
theorem BSim.mem (h : BSim n b r) {m' : Md} {r' : Rm} (hs : Sim m' r') (h0 : 0 ≤ r'.clk) (h1 : r'.clk ≤ ((n + 1 : Nat) : Int)) (h2 : r'.L.length ≤ n + 1) : BSim (n + 1) { b with m := m' } ⟨r', r.W⟩ :=
 ⟨h.nw, hs, h.wk, h0, h1, h2, fun x hx => by have := h.beg x hx; omega⟩
theorem BSim.put (h : BSim n b r) {i : Int} (h0 : 0 ≤ i) (hi : i < (r.W.length : Int)) {x : S66} {v : Option Wk} (hv : v = wkOf x) (hb : 0 ≤ x.f1 ∧ x.f1 ≤ (n : Int)) : BSim n { b with wks := updW b.wks i v } ⟨r.m, r.W.set i.toNat x⟩ := by
 refine ⟨by rw [List.length_set]; exact h.nw, h.sim, fun j y hj => ?_, h.c0, h.cn, h.len, fun y hy => ?_⟩
 ·show updW b.wks i v (j : Int) = wkOf y
  unfold updW
  by_cases e : (j : Int) = i
  ·rw [if_pos e]
   have e2 : i.toNat = j := by omega
   rw [e2, List.getElem?_set_self (by omega)] at hj
   rw [hv, Option.some.inj hj]
  ·rw [if_neg e]
   rw [List.getElem?_set_ne (by omega)] at hj
   exact h.wk j y hj
 ·rcases List.mem_or_eq_of_mem_set hy with q | q
  ·exact h.beg y q
  ·rw [q]; exact hb
end
theorem within_eq {d t f g : Int} (hd : 0 ≤ d) (hd2 : d ≤ 9223372036854775807) (hf : 0 ≤ f) (hf2 : f ≤ 1000000) (hg : 0 ≤ g) (hg2 : g ≤ 1000000) : withinB d t f g = (decide (f ≤ d - t) && decide (d - t ≤ g)) := by
 unfold withinB
 have e1 : wrap64 (d - f) = d - f := by unfold wrap64; omega
 have e2 : wrap64 (d - g) = d - g := by unfold wrap64; omega
 rw [e1, e2, Bool.eq_iff_iff]
 simp only [Bool.and_eq_true, decide_eq_true_eq]
 omega
theorem BSim.step {n : Nat} {b : Be} {r : Rb} (h : BSim n b r) (hn : n ≤ 90000) (e : Au.Ev) (hw : (Lit.int .i64 e.hg).wf = true) (ht : e.t ≤ 9223372036854775807) : (hearF b e).2 = (rhearF r e).2 ∧ BSim (n + 1) (hearF b e).1 (rhearF r e).1 := by
 obtain ⟨hs2, hs⟩ := h.sim.step e hw
 have hc := rdo_clk (e := e) h.c0 (by have := h.cn; omega)
 have hl := rdo_len (m := r.m) (e := e)
 have hcn := h.cn
 have hc0 := h.c0
 have hln := h.len
 have hmem : ∀ (r' : Rb), r' = ⟨(rdoF r.m e).1, r.W⟩ → BSim (n + 1) { b with m := (doF b.m e).1 } r' := fun r' q => by
  rw [q]
  exact h.mem hs hc.1 (by omega) (by omega)
 have hck : b.m.clk = r.m.clk := h.sim.clk
 by_cases hr : rightJ e = false ∨ (r.W.length : Int) ≤ e.wk
 ·have hL : hearF b e = (b, 8) := by unfold hearF; rw [if_pos (by rw [h.nw]; exact hr)]
  have hR : rhearF r e = (r, 8) := by unfold rhearF; rw [if_pos hr]
  rw [hL, hR]
  exact ⟨rfl, h.up⟩
 have hrt : rightJ e = true := by
  cases q : rightJ e with
  | true => rfl
  | false => exact absurd (.inl q) hr
 have hlt : e.wk < (r.W.length : Int) := by
  have : ¬ (r.W.length : Int) ≤ e.wk := fun q => hr (.inr q)
  omega
 have hwk := right_wk hrt
 obtain ⟨x, hx, hrd, hxm⟩ := rd_at6 hwk hlt
 have hxw : b.wks e.wk = wkOf x := by
  have := h.wk e.wk.toNat x hx
  rwa [show ((e.wk.toNat : Nat) : Int) = e.wk by omega] at this
 have hbeg := h.beg x hxm
 have hnn : ¬ (rightJ e = false ∨ b.nw ≤ e.wk) := by rw [h.nw]; exact hr
 unfold hearF rhearF
 rw [if_neg hnn, if_neg hr, hrd]
 by_cases k1 : e.k = 1
 ·rw [if_pos k1, if_pos k1]
  exact ⟨hs2, hmem _ rfl⟩
 rw [if_neg k1, if_neg k1]
 by_cases idle : x.f0.f2 = 0
 ·have hno : b.wks e.wk = none := by rw [hxw]; unfold wkOf; rw [if_pos idle]
  rw [hno]
  simp only
  by_cases k2 : e.k = 2
  ·rw [if_pos k2, if_pos k2, if_pos idle]
   refine ⟨rfl, BSim.up (h.put hwk hlt ?_ ⟨hc0, hcn⟩)⟩
   unfold wkOf
   have := right_op2 hrt (.inl k2)
   rw [if_neg (show ¬ (ofE e).f2 = 0 by show ¬ e.op = 0; omega), hck]
   rfl
  rw [if_neg k2, if_neg k2]
  have hR : (if e.k = 3 then (if rptOk r.m.clk x e = true then rcan r x e else (r, 6)) else if e.k = 4 then (if x.f0.f2 = 5 ∧ x.f1 ≤ e.t then rcan r x e else (r, 6)) else if rans x e = true then (⟨r.m, r.W.set e.wk.toNat z66⟩, 0) else (r, 6)) = (r, 6) := by
   by_cases k3 : e.k = 3
   ·have := right_op hrt k3
    rw [if_pos k3, if_neg]
    unfold rptOk
    rw [idle, show ((0 : Int) == e.op) = false from beq_eq_false_iff_ne.2 (by omega)]
    simp
   rw [if_neg k3]
   by_cases k4 : e.k = 4
   ·rw [if_pos k4, if_neg (by omega)]
   rw [if_neg k4, if_neg]
   have k5 : e.k = 5 := by have := right_k hrt; omega
   have := right_op2 hrt (.inr k5)
   unfold rans
   rw [idle, show ((0 : Int) == e.op) = false from beq_eq_false_iff_ne.2 (by omega)]
   simp
  rw [hR]
  exact ⟨rfl, h.up⟩
 have hyes : b.wks e.wk = some ⟨x.f0.f2, x.f0.f3.f0, x.f0.f3.f1, x.f0.f5, x.f1, if x.f2 = true then some (ptOf (toE x.f3)) else none⟩ := by rw [hxw]; unfold wkOf; rw [if_neg idle]
 rw [hyes]
 simp only
 by_cases k2 : e.k = 2
 ·rw [if_pos k2, if_pos k2, if_neg idle]
  exact ⟨rfl, h.up⟩
 rw [if_neg k2, if_neg k2]
 by_cases k4 : e.k = 4
 ·rw [if_pos k4, if_neg (show ¬ e.k = 3 by omega), if_pos k4]
  by_cases c : x.f0.f2 ≠ 5 ∨ e.t < x.f1
  ·rw [if_pos c, if_neg (by omega)]
   exact ⟨rfl, h.up⟩
  ·rw [if_neg c, if_pos (by omega)]
   unfold rcan
   by_cases z : (rdoF r.m e).2 = 0
   ·rw [if_pos z, if_neg (by omega)]
    exact ⟨hs2.trans z, hmem _ rfl⟩
   ·rw [if_neg z]
    exact ⟨hs2, hmem _ (by rw [rdo_fail z])⟩
 rw [if_neg k4]
 by_cases k3 : e.k = 3
 ·rw [if_pos k3, if_pos k3]
  by_cases o : x.f0.f2 = e.op
  ·rw [if_neg (by simpa using o)]
   have hop := right_op hrt k3
   have htt := right_t hrt (.inl k3)
   have hpo : pointOk b ⟨x.f0.f2, x.f0.f3.f0, x.f0.f3.f1, x.f0.f5, x.f1, if x.f2 = true then some (ptOf (toE x.f3)) else none⟩ e = rptOk r.m.clk x e := by
    unfold pointOk rptOk
    simp only
    rw [hck, within_eq htt ht hbeg.1 (by omega) hc0 (by omega), show (x.f0.f2 == e.op) = true from beq_iff_eq.2 o]
    cases hq : x.f2 <;> cases q1 : (e.op == 1) <;> cases q2 : (e.hn == x.f0.f3.f0) <;> cases q3 : (e.hg == x.f0.f3.f1) <;> cases q4 : (e.er == 0) <;> cases q5 : (e.op == 3) <;> simp [hq, q1, q2, q3, q4, q5, bne, h.sim.clk]
   unfold pointB
   rw [hpo]
   by_cases c : rptOk r.m.clk x e = true
   ·rw [if_pos c, if_pos c]
    unfold rcan
    by_cases z : (rdoF r.m e).2 = 0
    ·rw [if_pos (hs2.trans z), if_pos z, if_pos k3]
     refine ⟨rfl, ?_⟩
     refine BSim.put (r := ⟨(rdoF r.m e).1, r.W⟩) (b := { b with m := (doF b.m e).1 }) (hmem _ rfl) hwk hlt ?_ (by show 0 ≤ x.f1 ∧ x.f1 ≤ _; omega)
     unfold wkOf
     rw [if_neg (show ¬ x.f0.f2 = 0 from idle)]
     rfl
    ·rw [if_neg (by rw [hs2]; exact z), if_neg z]
     exact ⟨hs2, hmem _ (by rw [rdo_fail z])⟩
   ·rw [if_neg c, if_neg c]
    exact ⟨rfl, h.up⟩
  ·rw [if_pos (by simpa using o), if_neg]
   ·exact ⟨rfl, h.up⟩
   ·unfold rptOk
    rw [show (x.f0.f2 == e.op) = false from beq_eq_false_iff_ne.2 o]
    simp
 rw [if_neg k3, if_neg k3, if_neg k4]
 by_cases o : x.f0.f2 = e.op
 ·rw [if_neg (by simpa using o)]
  have hz : BSim (n + 1) { b with wks := updW b.wks e.wk none } ⟨r.m, r.W.set e.wk.toNat z66⟩ := BSim.up (h.put hwk hlt (by unfold wkOf; rw [if_pos (show z66.f0.f2 = 0 from rfl)]) (by show (0 : Int) ≤ 0 ∧ (0 : Int) ≤ n; omega))
  have ha : rans x e = !(decide (e.op ≤ 4) && !answersB ⟨x.f0.f2, x.f0.f3.f0, x.f0.f3.f1, x.f0.f5, x.f1, if x.f2 = true then some (ptOf (toE x.f3)) else none⟩ e) := by
   unfold rans answersB
   rw [show (x.f0.f2 == e.op) = true from beq_iff_eq.2 o]
   cases hq : x.f2 with
   | true => simp [ptOf, toE, Bool.and_assoc]
   | false => simp
  by_cases c : e.op ≤ 4 ∧ answersB ⟨x.f0.f2, x.f0.f3.f0, x.f0.f3.f1, x.f0.f5, x.f1, if x.f2 = true then some (ptOf (toE x.f3)) else none⟩ e = false
  ·rw [if_pos c, if_neg (by rw [ha, c.2]; simp [c.1])]
   exact ⟨rfl, h.up⟩
  ·rw [if_neg c, if_pos]
   ·exact ⟨rfl, hz⟩
   ·rw [ha]
    cases hans : answersB ⟨x.f0.f2, x.f0.f3.f0, x.f0.f3.f1, x.f0.f5, x.f1, if x.f2 = true then some (ptOf (toE x.f3)) else none⟩ e with
    | true => simp
    | false =>
     have : ¬ e.op ≤ 4 := fun q => c ⟨q, hans⟩
     simp [this]
 ·rw [if_pos (by simpa using o), if_neg]
  ·exact ⟨rfl, h.up⟩
  ·unfold rans
   rw [show (x.f0.f2 == e.op) = false from beq_eq_false_iff_ne.2 o]
   simp
end Go.Proofs.Ythniclbmpeklmaa.KJf
end
