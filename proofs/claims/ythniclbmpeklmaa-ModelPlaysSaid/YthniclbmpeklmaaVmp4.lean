/- What is proved: a part of the way to the statement ModelPlaysSaid: KJfx9, KJfx4; no conditions. Put together by a program of this session (claimv.py). -/
import Derived.Test.YthniclbmpeklmaaVmp3
section
set_option maxHeartbeats 8000000
set_option maxRecDepth 100000
namespace Go.Proofs.Ythniclbmpeklmaa.KJf
open Go.RowKit Go.Proofs.YthniclbmpeklmaaW.PrintWords Go.Proofs.YthniclbmpeklmaaW.PrintLast Go.Proofs.YthniclbmpeklmaaW.PrintMore
attribute [local go_sem] max2_int min2_int max_two min_two max_three min_three max_four min_four   -- for this text's walks alone
set_option linter.unusedVariables false
set_option linter.unusedSimpArgs false
def knellref12_before.f (a0_0 : Int) (a0_1 : Int) (a1_0 : Int) (a1_1 : Int) : Option (Bool) := if a0_0 = a1_0 then (some (decide (a0_1 < a1_1))) else (some (decide (a0_0 < a1_0)))
theorem knellref12_before.calls (a0_0 : Int) (a0_1 : Int) (a1_0 : Int) (a1_1 : Int) (r : Bool) (w : World) (h : knellref12_before.f a0_0 a0_1 a1_0 a1_1 = some r) :
  Calls Try.prog 104 #[.agg #[.int .i64 a0_0, .int .i64 a0_1], .agg #[.int .i64 a1_0, .int .i64 a1_1]] w fun e w' => e = .returned (.bool r) ∧ Below w.heap.size w w' := by
 have hu36 := Try.underlying36
 have HB := Aside0.mk (Below.refl w.heap.size w)
 have H : (if a0_0 = a1_0 then (some (decide (a0_1 < a1_1))) else (some (decide (a0_0 < a1_0)))) = some r := h
 clear h
 by_cases c3 : a0_0 = a1_0
 ·rw [if_pos c3] at H
  have c3b0 : (a0_0 == a1_0) = true := beq_iff_eq.mpr c3
  have c3b1 : (a0_0 != a1_0) = false := bne_eq_false_iff_eq.mpr c3
  clear c3
  obtain rfl := Option.some.inj H
  go_enter Try.func104, Try.ntmps104
  go_wp2_with (first | ((with_reducible refine gate_dst (N := 2) rfl ?_); refine box_event ?hg (N := 2) ?hd (cs := #[.int .i64 a0_0, .int .i64 a0_1]) (t := 36) ?hr ?_; (case hd => rfl); (case hg => rfl); (case hr => first | (go_simp; done) | (go_simp; rfl)); intro gb174 hg w4 hbox hb; have n0_ := Aside0.mk (below_step (by repeat (first | (with_reducible first | exact HB.out | apply below_alloc | apply pw_below_drewN | apply below_drew1) | exact HB.out)) hb); have n1_ := Aside0.mk (hbox); have n2_ := Aside0.mk ((by rw [hg]; exact (below_size (by repeat (first | (with_reducible first | exact HB.out | apply below_alloc | apply pw_below_drewN | apply below_drew1) | exact HB.out))) : w.heap.size ≤ gb174)); have n3_ := Aside0.mk ((by rw [hg]; exact (below_size (by repeat (first | (with_reducible first | exact HB.out | apply below_alloc | apply pw_below_drewN | apply below_drew1) | exact HB.out))) : w.heap.size ≤ gb174)); clear HB; have HB := n0_; have BK174 := n1_; have GW174 := n2_; have GE174 := n3_; clear n0_ n1_ n2_ n3_; clear hb hbox hg) | ((with_reducible refine gate_dst (N := 3) rfl ?_); refine box_event ?hg (N := 3) ?hd (cs := #[.int .i64 a1_0, .int .i64 a1_1]) (t := 36) ?hr ?_; (case hd => rfl); (case hg => rfl); (case hr => first | (go_simp; done) | (go_simp; rfl)); intro gb175 hg w5 hbox hb; have n0_ := Aside0.mk (blk_below (g := gb174) (o := .cells #[.int .i64 a0_0, .int .i64 a0_1] 36 (0, 0)) (by (with_reducible repeat (first | refine blk_drewN ?_ _ | refine blk_drew ?_ | refine blk_alloc ?_ _)); exact BK174.out) hb); have n1_ := Aside0.mk (below_step (by repeat (first | (with_reducible first | exact HB.out | apply below_alloc | apply pw_below_drewN | apply below_drew1 | refine below_set ?_ GE174.out) | exact HB.out)) hb); have n2_ := Aside0.mk (hbox); have n3_ := Aside0.mk ((by rw [hg]; exact (below_size (by repeat (first | (with_reducible first | exact HB.out | apply below_alloc | apply pw_below_drewN | apply below_drew1 | refine below_set ?_ GE174.out) | exact HB.out))) : w.heap.size ≤ gb175)); have n4_ := Aside0.mk ((by rw [hg]; exact (below_size (by repeat (first | (with_reducible first | exact HB.out | apply below_alloc | apply pw_below_drewN | apply below_drew1 | refine below_set ?_ GE174.out) | exact HB.out))) : w.heap.size ≤ gb175)); have n5_ := Aside0.mk ((by rw [hg]; exact Nat.ne_of_lt (blk_lt (g := gb174) (o := .cells #[.int .i64 a0_0, .int .i64 a0_1] 36 (0, 0)) (by (with_reducible repeat (first | refine blk_drewN ?_ _ | refine blk_drew ?_ | refine blk_alloc ?_ _)); exact BK174.out)) : gb174 ≠ gb175)); have n6_ := Aside0.mk ((by rw [hg]; exact Nat.ne_of_gt (blk_lt (g := gb174) (o := .cells #[.int .i64 a0_0, .int .i64 a0_1] 36 (0, 0)) (by (with_reducible repeat (first | refine blk_drewN ?_ _ | refine blk_drew ?_ | refine blk_alloc ?_ _)); exact BK174.out)) : gb175 ≠ gb174)); clear BK174; clear HB; have BK174 := n0_; have HB := n1_; have BK175 := n2_; have GW175 := n3_; have GE175 := n4_; have NB174_175 := n5_; have NB175_174 := n6_; clear n0_ n1_ n2_ n3_ n4_ n5_ n6_; clear hb hbox hg; have hnb6 := NB174_175.out; have hnc6 := NB175_174.out; have hcz7_0 : w5.cell? ⟨gb174, 0, none⟩ = some (.int .i64 a0_0) := (blk_cell BK174.out 0).trans rfl; have hcz7_1 : w5.cell? ⟨gb174, 1, none⟩ = some (.int .i64 a0_1) := (blk_cell BK174.out 1).trans rfl; have hfz7_0 := blk_frozen BK174.out 0; have hfz7_1 := blk_frozen BK174.out 1; have hcz8_0 : w5.cell? ⟨gb175, 0, none⟩ = some (.int .i64 a1_0) := (blk_cell BK175.out 0).trans rfl; have hcz8_1 : w5.cell? ⟨gb175, 1, none⟩ = some (.int .i64 a1_1) := (blk_cell BK175.out 1).trans rfl; have hfz8_0 := blk_frozen BK175.out 0; have hfz8_1 := blk_frozen BK175.out 1))
  go_ret
  exact ⟨by first | rfl | (simp [errW_none, errW_some] <;> rfl) | (simp [*, errW_none, errW_some] <;> rfl), by repeat (first | (with_reducible first | exact HB.out | apply below_alloc | apply pw_below_drewN | apply below_drew1 | refine below_set ?_ GE174.out | refine below_set ?_ GE175.out) | exact HB.out)⟩
 ·rw [if_neg c3] at H
  have c3b0 : (a0_0 == a1_0) = false := beq_eq_false_iff_ne.mpr c3
  have c3b1 : (a0_0 != a1_0) = true := bne_iff_ne.mpr c3
  obtain rfl := Option.some.inj H
  go_enter Try.func104, Try.ntmps104
  go_wp2_with (first | ((with_reducible refine gate_dst (N := 2) rfl ?_); refine box_event ?hg (N := 2) ?hd (cs := #[.int .i64 a0_0, .int .i64 a0_1]) (t := 36) ?hr ?_; (case hd => rfl); (case hg => rfl); (case hr => first | (go_simp; done) | (go_simp; rfl)); intro gb174 hg w9 hbox hb; have n0_ := Aside0.mk (below_step (by repeat (first | (with_reducible first | exact HB.out | apply below_alloc | apply pw_below_drewN | apply below_drew1) | exact HB.out)) hb); have n1_ := Aside0.mk (hbox); have n2_ := Aside0.mk ((by rw [hg]; exact (below_size (by repeat (first | (with_reducible first | exact HB.out | apply below_alloc | apply pw_below_drewN | apply below_drew1) | exact HB.out))) : w.heap.size ≤ gb174)); have n3_ := Aside0.mk ((by rw [hg]; exact (below_size (by repeat (first | (with_reducible first | exact HB.out | apply below_alloc | apply pw_below_drewN | apply below_drew1) | exact HB.out))) : w.heap.size ≤ gb174)); clear HB; have HB := n0_; have BK174 := n1_; have GW174 := n2_; have GE174 := n3_; clear n0_ n1_ n2_ n3_; clear hb hbox hg) | ((with_reducible refine gate_dst (N := 3) rfl ?_); refine box_event ?hg (N := 3) ?hd (cs := #[.int .i64 a1_0, .int .i64 a1_1]) (t := 36) ?hr ?_; (case hd => rfl); (case hg => rfl); (case hr => first | (go_simp; done) | (go_simp; rfl)); intro gb175 hg w10 hbox hb; have n0_ := Aside0.mk (blk_below (g := gb174) (o := .cells #[.int .i64 a0_0, .int .i64 a0_1] 36 (0, 0)) (by (with_reducible repeat (first | refine blk_drewN ?_ _ | refine blk_drew ?_ | refine blk_alloc ?_ _)); exact BK174.out) hb); have n1_ := Aside0.mk (below_step (by repeat (first | (with_reducible first | exact HB.out | apply below_alloc | apply pw_below_drewN | apply below_drew1 | refine below_set ?_ GE174.out) | exact HB.out)) hb); have n2_ := Aside0.mk (hbox); have n3_ := Aside0.mk ((by rw [hg]; exact (below_size (by repeat (first | (with_reducible first | exact HB.out | apply below_alloc | apply pw_below_drewN | apply below_drew1 | refine below_set ?_ GE174.out) | exact HB.out))) : w.heap.size ≤ gb175)); have n4_ := Aside0.mk ((by rw [hg]; exact (below_size (by repeat (first | (with_reducible first | exact HB.out | apply below_alloc | apply pw_below_drewN | apply below_drew1 | refine below_set ?_ GE174.out) | exact HB.out))) : w.heap.size ≤ gb175)); have n5_ := Aside0.mk ((by rw [hg]; exact Nat.ne_of_lt (blk_lt (g := gb174) (o := .cells #[.int .i64 a0_0, .int .i64 a0_1] 36 (0, 0)) (by (with_reducible repeat (first | refine blk_drewN ?_ _ | refine blk_drew ?_ | refine blk_alloc ?_ _)); exact BK174.out)) : gb174 ≠ gb175)); have n6_ := Aside0.mk ((by rw [hg]; exact Nat.ne_of_gt (blk_lt (g := gb174) (o := .cells #[.int .i64 a0_0, .int .i64 a0_1] 36 (0, 0)) (by (with_reducible repeat (first | refine blk_drewN ?_ _ | refine blk_drew ?_ | refine blk_alloc ?_ _)); exact BK174.out)) : gb175 ≠ gb174)); clear BK174; clear HB; have BK174 := n0_; have HB := n1_; have BK175 := n2_; have GW175 := n3_; have GE175 := n4_; have NB174_175 := n5_; have NB175_174 := n6_; clear n0_ n1_ n2_ n3_ n4_ n5_ n6_; clear hb hbox hg; have hnb11 := NB174_175.out; have hnc11 := NB175_174.out; have hcz12_0 : w10.cell? ⟨gb174, 0, none⟩ = some (.int .i64 a0_0) := (blk_cell BK174.out 0).trans rfl; have hcz12_1 : w10.cell? ⟨gb174, 1, none⟩ = some (.int .i64 a0_1) := (blk_cell BK174.out 1).trans rfl; have hfz12_0 := blk_frozen BK174.out 0; have hfz12_1 := blk_frozen BK174.out 1; have hcz13_0 : w10.cell? ⟨gb175, 0, none⟩ = some (.int .i64 a1_0) := (blk_cell BK175.out 0).trans rfl; have hcz13_1 : w10.cell? ⟨gb175, 1, none⟩ = some (.int .i64 a1_1) := (blk_cell BK175.out 1).trans rfl; have hfz13_0 := blk_frozen BK175.out 0; have hfz13_1 := blk_frozen BK175.out 1))
  go_ret
  exact ⟨by first | rfl | (simp [errW_none, errW_some] <;> rfl) | (simp [*, errW_none, errW_some] <;> rfl), by repeat (first | (with_reducible first | exact HB.out | apply below_alloc | apply pw_below_drewN | apply below_drew1 | refine below_set ?_ GE174.out | refine below_set ?_ GE175.out) | exact HB.out)⟩
mutual
def knellref12_Armeds.l0 : Nat → List (S127) → Int → Int → List (S127) → Option ((List (S127)))
 | 0, _, _, _, _ => none
 | k + 1, x3, x4, x177000, x177001 => if x4 < (x177001.length : Int) then (if 0 ≤ x4 then (if ((rd_T127 x177001 x4).f1) = 1 then (knellref12_Armeds.l1 k x3 x4 0 x177000 x177001) else (knellref12_Armeds.l0 k x3 (wrap64 (x4 + 1)) x177000 x177001)) else (none)) else (some x3)
def knellref12_Armeds.l1 : Nat → List (S127) → Int → Int → Int → List (S127) → Option ((List (S127)))
 | 0, _, _, _, _, _ => none
 | k + 1, x3, x4, x5, x177000, x177001 => if x5 < (x3.length : Int) then (if 0 ≤ x5 then (if 0 ≤ x4 then (if x4 < (x177001.length : Int) then ((knellref12_before.f ((rd_T127 x3 x5).f0.f0) ((rd_T127 x3 x5).f0.f1) ((rd_T127 x177001 x4).f0.f0) ((rd_T127 x177001 x4).f0.f1)).bind fun t183 => (if t183 = true then (knellref12_Armeds.l1 k x3 x4 (wrap64 (x5 + 1)) x177000 x177001) else ((some (([] : List (S127)) : List (S127))).bind fun y184 => (if x5 ≤ (x3.length : Int) then ((some (x3.take (x5 : Int).toNat : List (S127))).bind fun y187 => (if y184.length + y187.length < 4398046511104 then ((some (y184 ++ y187 : List (S127))).bind fun y191 => ((some (([(⟨(⟨(rd_T127 x177001 x4).f0.f0, (rd_T127 x177001 x4).f0.f1⟩ : S36), (rd_T127 x177001 x4).f1, (rd_T127 x177001 x4).f2⟩ : S127)] : List (S127)) : List (S127))).bind fun y195 => (if y191.length + y195.length < 4398046511104 then ((some (y191 ++ y195 : List (S127))).bind fun y198 => ((some (x3.drop (x5 : Int).toNat : List (S127))).bind fun y201 => (if y198.length + y201.length < 4398046511104 then (knellref12_Armeds.l0 k (y198 ++ y201) (wrap64 (x4 + 1)) x177000 x177001) else (none)))) else (none)))) else (none))) else (none))))) else (none)) else (none)) else (none)) else ((some (([] : List (S127)) : List (S127))).bind fun y208 => (if 0 ≤ x5 then (if x5 ≤ (x3.length : Int) then ((some (x3.take (x5 : Int).toNat : List (S127))).bind fun y211 => (if y208.length + y211.length < 4398046511104 then ((some (y208 ++ y211 : List (S127))).bind fun y215 => (if 0 ≤ x4 then (if x4 < (x177001.length : Int) then ((some (([(⟨(⟨(rd_T127 x177001 x4).f0.f0, (rd_T127 x177001 x4).f0.f1⟩ : S36), (rd_T127 x177001 x4).f1, (rd_T127 x177001 x4).f2⟩ : S127)] : List (S127)) : List (S127))).bind fun y219 => (if y215.length + y219.length < 4398046511104 then ((some (y215 ++ y219 : List (S127))).bind fun y222 => ((some (x3.drop (x5 : Int).toNat : List (S127))).bind fun y225 => (if y222.length + y225.length < 4398046511104 then (knellref12_Armeds.l0 k (y222 ++ y225) (wrap64 (x4 + 1)) x177000 x177001) else (none)))) else (none))) else (none)) else (none))) else (none))) else (none)) else (none)))
end
def knellref12_Armeds.f (k : Nat) (a0_0 : Int) (l0_1 : List (S127)) : Option ((List (S127))) := knellref12_Armeds.l0 k (([] : List (S127))) 0 a0_0 l0_1
def knellref12_Armeds.T7 : Bool × List (List Nat × List Nat) := (true, [([], []), ([], []), ([1], [1]), ([0, 2], [0, 2]), ([3], [3]), ([4], [4]), ([4], [4]), ([5, 6, 4], [4, 5, 6]), ([7, 4], [4, 7]), ([8, 4], [4, 8]), ([4], [4]), ([10, 4], [4, 10]), ([4], [4]), ([11, 12, 4], [4, 11, 12]), ([13, 4], [4, 13]), ([14, 4], [4, 14]), ([9, 15, 4, 4], [4, 9, 15]), ([4, 16], [4, 16])])
def knellref12_Armeds.B7 : List Nat := [0, 0, 2, 7, 15, 31, 31, 127, 255, 511, 31, 1055, 31, 7199, 15391, 31775, 65535, 131071]
theorem knellref12_Armeds.tab7 : rtab .any (opsOf Try.f82 7) = knellref12_Armeds.T7 := by kernel_rfl
theorem knellref12_Armeds.bits7 : waitsOk knellref12_Armeds.T7.2 knellref12_Armeds.B7 = true := by kernel_rfl
def knellref12_Armeds.T9 : Bool × List (List Nat × List Nat) := (true, [([], []), ([], []), ([], []), ([1, 2], [1, 2]), ([0, 3], [0, 3]), ([], []), ([5], [5]), ([], []), ([6, 7], [6, 7]), ([8], [8]), ([9], [9]), ([4, 10, 4], [4, 10]), ([11, 11, 0, 1, 2, 3, 4, 5, 6, 7, 8, 9, 10, 11], [11])])
def knellref12_Armeds.B9 : List Nat := [0, 0, 0, 6, 15, 0, 32, 0, 224, 480, 992, 2047, 4095]
theorem knellref12_Armeds.tab9 : rtab .any (opsOf Try.f82 9) = knellref12_Armeds.T9 := by kernel_rfl
theorem knellref12_Armeds.bits9 : waitsOk knellref12_Armeds.T9.2 knellref12_Armeds.B9 = true := by kernel_rfl
theorem knellref12_Armeds.calls (k : Nat) (a0_0 : Int) (A0_1 : Option Addr) (c0_1 : Nat) (l0_1 : List (S127)) (r : List (S127)) (w : World) (hr0_1 : Kd.C k127 w A0_1 l0_1.length l0_1) (hc0_1 : l0_1.length ≤ c0_1) (h : knellref12_Armeds.f k a0_0 l0_1 = some r) :
  Calls Try.prog 82 #[.agg #[.int .i64 a0_0, .slice A0_1 l0_1.length c0_1]] w fun e w' => ∃ v0_ : Value, e = .returned (v0_) ∧ Kd.R k127 127 w' w.heap.size (fun _ => True) v0_ r ∧ Below w.heap.size w w' := by
 have hu43 := Try.underlying43
 have hu36 := Try.underlying36
 have hu127 := Try.underlying127
 have HR0_1 := Aside0.mk hr0_1
 have HC0_1 := Aside0.mk hc0_1
 clear hr0_1 hc0_1
 have HB := Aside0.mk (Below.refl w.heap.size w)
 have H : (knellref12_Armeds.l0 k (([] : List (S127))) 0 a0_0 l0_1) = some r := h
 clear h
 obtain ⟨y177, hy177⟩ : ∃ y_ : List (S127), y_ = (([] : List (S127))) := ⟨_, rfl⟩
 replace H : (knellref12_Armeds.l0 k y177 0 a0_0 l0_1) = some r := by first | (rw [hy177]; with_reducible exact H) | (have H2_ := (Option.bind_some _ _).symm.trans H; rw [hy177]; with_reducible exact H2_) | (have H2_ := (Option.bind_some _ _).symm.trans H; with_reducible exact H2_) | with_reducible exact H | (rw [hy177]; exact H) | exact H
 have Ny177 := Aside0.mk hy177
 clear hy177
 have H' := Aside0.mk H
 clear H
 go_enter Try.func82, Try.ntmps82
 go_wp2_with (first | ((with_reducible refine gate_dst (N := 1) rfl ?_); refine box_event ?hg (N := 1) ?hd (cs := #[.int .i64 a0_0, .slice A0_1 l0_1.length c0_1]) (t := 43) ?hr ?_; (case hd => rfl); (case hg => rfl); (case hr => first | (go_simp; done) | (go_simp; rfl)); intro gb176 hg w2 hbox hb; have n0_ := Aside0.mk (below_step (by repeat (first | (with_reducible first | exact HB.out | apply below_alloc | apply pw_below_drewN | apply below_drew1) | exact HB.out)) hb); have n1_ := Aside0.mk (hbox); have n2_ := Aside0.mk ((by rw [hg]; exact (below_size (by repeat (first | (with_reducible first | exact HB.out | apply below_alloc | apply pw_below_drewN | apply below_drew1) | exact HB.out))) : w.heap.size ≤ gb176)); have n3_ := Aside0.mk ((by rw [hg]; exact (below_size (by repeat (first | (with_reducible first | exact HB.out | apply below_alloc | apply pw_below_drewN | apply below_drew1) | exact HB.out))) : w.heap.size ≤ gb176)); clear HB; have HB := n0_; have BK176 := n1_; have GW176 := n2_; have GE176 := n3_; clear n0_ n1_ n2_ n3_; clear hb hbox hg) | ((with_reducible refine gate_dst (N := 7) rfl ?_); refine Kd.R_lit k127 _ 127 ?hg (N := 7) ?hd (xs := ([] : List (S127))) (inner := []) (ok := fun _ => True) (okp := fun _ => True) ?hr ?hp (fun _ hk => hk) trivial (Below.refl _ _) (Nat.le_refl _) (by simp) ?_; (case hd => rfl); (case hg => rfl); (case hr => first | (go_simp; done) | (go_simp; rfl)); (case hp => exact (Reps.none _ _)); intro v178 w3 ho4 hb hg_ hnew_; clear hg_ hnew_; (first | rw [← Ny177.out] at ho4 | (simp only [Int.reduceToNat] at ho4; rw [← Ny177.out] at ho4)); have n0_ := Aside0.mk (Kd.R_lower ho4 (below_size (by repeat (first | (with_reducible first | exact HB.out | apply below_alloc | apply pw_below_drewN | apply below_drew1 | refine below_set ?_ GE176.out) | exact HB.out)))); have n1_ := Aside0.mk (blk_below (g := gb176) (o := .cells #[.int .i64 a0_0, .slice A0_1 l0_1.length c0_1] 43 (0, 0)) (by (with_reducible repeat (first | refine blk_drewN ?_ _ | refine blk_drew ?_ | refine blk_alloc ?_ _)); exact BK176.out) hb); have n2_ := Aside0.mk (below_step (by repeat (first | (with_reducible first | exact HB.out | apply below_alloc | apply pw_below_drewN | apply below_drew1 | refine below_set ?_ GE176.out) | exact HB.out)) hb); clear BK176; clear HB; have HO179 := n0_; have BK176 := n1_; have HB := n2_; clear n0_ n1_ n2_; clear hb ho4))
 go_loopg [3, 4] k (fun kq v3 v4 w' => ∃ (x3_1 : List (S127)) (x4_1 : Int), v4 = .int .i64 x4_1 ∧ Aside0 (knellref12_Armeds.l0 kq x3_1 x4_1 a0_0 l0_1 = some r) ∧ Aside0 (kq ≤ k) ∧ Aside0 (Kd.R k127 127 w' w.heap.size (fun _ => True) v3 x3_1) ∧ Aside0 (w'.heap[gb176]? = some (.cells #[.int .i64 a0_0, (.slice A0_1 l0_1.length c0_1)] 43 (0, 0))) ∧ Aside0 (Below w.heap.size w w'))
 case atStart => exact ⟨(y177), (0), (by first | rfl | (simp; done) | (simp [*]; done)), H', ⟨Nat.le_refl _⟩, ⟨by (with_reducible repeat (first | apply Kd.R_alloc | apply Kd.R_drewN | apply Kd.R_drew)); exact HO179.out⟩, ⟨by (with_reducible repeat (first | refine blk_drewN ?_ _ | refine blk_drew ?_ | refine blk_alloc ?_ _)); exact BK176.out⟩, ⟨by repeat (first | (with_reducible first | exact HB.out | apply below_alloc | apply pw_below_drewN | apply below_drew1 | refine below_set ?_ GE176.out) | exact HB.out)⟩⟩
 case round =>
  clear H'
  try clear p2
  obtain ⟨x3_1, x4_1, rfl, HA, HK1, HO_3, BK176, HB⟩ := hrel
  cases gk with
  | zero => exact absurd HA.out (by simp [knellref12_Armeds.l0])
  | succ k1 =>
   have H := HA.out
   clear HA
   simp only [knellref12_Armeds.l0] at H
   by_cases c5 : x4_1 < (l0_1.length : Int)
   ·rw [if_pos c5] at H
    have c5b0 : decide (x4_1 < (l0_1.length : Int)) = true := decide_eq_true c5
    clear c5
    by_cases c6 : 0 ≤ x4_1
    ·rw [if_pos c6] at H
     have c6b0 : decide (0 ≤ x4_1) = true := decide_eq_true c6
     clear c6
     by_cases c7 : ((rd_T127 l0_1 x4_1).f1) = 1
     ·rw [if_pos c7] at H
      have c7b0 : (((rd_T127 l0_1 x4_1).f1) == 1) = true := beq_iff_eq.mpr c7
      have c7b1 : (((rd_T127 l0_1 x4_1).f1) != 1) = false := bne_eq_false_iff_eq.mpr c7
      clear c7
      have H' := Aside0.mk H
      clear H
      have hcz8_0 : wr.cell? ⟨gb176, 0, none⟩ = some (.int .i64 a0_0) := (blk_cell BK176.out 0).trans rfl
      have hcz8_1 : wr.cell? ⟨gb176, 1, none⟩ = some (.slice A0_1 l0_1.length c0_1) := (blk_cell BK176.out 1).trans rfl
      have hfz8_0 := blk_frozen BK176.out 0
      have hfz8_1 := blk_frozen BK176.out 1
      have p180 : 0 ≤ (x4_1 : Int) := of_decide_eq_true (by first | (with_reducible assumption) | assumption)
      have q180 : x4_1 < (l0_1.length : Int) := of_decide_eq_true (by first | (with_reducible assumption) | assumption)
      obtain ⟨ad180, e180, hx180_0, hx180_1, hx180_2, hx180_3⟩ := at_T127 HR0_1.out x4_1 p180 q180
      cases e180
      replace hx180_0 := (HB.out.cell (World.block_lt_of_cell? w _ hx180_0)).trans hx180_0
      replace hx180_1 := (HB.out.cell (World.block_lt_of_cell? w _ hx180_1)).trans hx180_1
      replace hx180_2 := (HB.out.cell (World.block_lt_of_cell? w _ hx180_2)).trans hx180_2
      replace hx180_3 := (HB.out.cell (World.block_lt_of_cell? w _ hx180_3)).trans hx180_3
      replace p180 := eq_true p180
      replace q180 := eq_true q180
      go_wp2
      go_loopg [5] k1 (fun kq v5 w' => ∃ (x5_2 : Int), v5 = .int .i64 x5_2 ∧ Aside0 (knellref12_Armeds.l1 kq x3_1 x4_1 x5_2 a0_0 l0_1 = some r) ∧ Aside0 (kq ≤ k1) ∧ Aside0 (Kd.R k127 127 w' w.heap.size (fun _ => True) u3 x3_1) ∧ Aside0 (w'.heap[gb176]? = some (.cells #[.int .i64 a0_0, (.slice (some ad180) l0_1.length c0_1)] 43 (0, 0))) ∧ Aside0 (Below w.heap.size w w'))
      case atStart => exact ⟨(0), (by first | rfl | (simp; done) | (simp [*]; done)), H', ⟨Nat.le_refl _⟩, ⟨by (with_reducible repeat (first | apply Kd.R_alloc | apply Kd.R_drewN | apply Kd.R_drew)); exact HO_3.out⟩, ⟨by (with_reducible repeat (first | refine blk_drewN ?_ _ | refine blk_drew ?_ | refine blk_alloc ?_ _)); exact BK176.out⟩, ⟨by repeat (first | (with_reducible first | exact HB.out | apply below_alloc | apply pw_below_drewN | apply below_drew1 | refine below_set ?_ GE176.out) | exact HB.out)⟩⟩
      case round =>
       clear H'
       try clear p1
       try clear q1
       try clear hx1
       try clear p2
       try clear c5
       try clear c5b0
       try clear c6
       try clear c6b0
       try clear c7
       try clear c7b0
       try clear c7b1
       try clear c8
       try clear hcz8_0
       try clear hcz8_1
       try clear hfz8_0
       try clear hfz8_1
       try clear hx180_0
       try clear hx180_1
       try clear hx180_2
       try clear hx180_3
       try clear p180
       try clear p2
       try clear q180
       obtain ⟨x5_2, rfl, HA, HK2, HO_3, BK176, HB⟩ := hrel
       cases gk with
       | zero => exact absurd HA.out (by simp [knellref12_Armeds.l1])
       | succ k2 =>
        have H := HA.out
        clear HA
        simp only [knellref12_Armeds.l1] at H
        by_cases c9 : x5_2 < (x3_1.length : Int)
        ·rw [if_pos c9] at H
         have c9b0 : decide (x5_2 < (x3_1.length : Int)) = true := decide_eq_true c9
         clear c9
         by_cases c10 : 0 ≤ x5_2
         ·rw [if_pos c10] at H
          have c10b0 : decide (0 ≤ x5_2) = true := decide_eq_true c10
          clear c10
          by_cases c11 : 0 ≤ x4_1
          ·rw [if_pos c11] at H
           have c11b0 : decide (0 ≤ x4_1) = true := decide_eq_true c11
           clear c11
           by_cases c12 : x4_1 < (l0_1.length : Int)
           ·rw [if_pos c12] at H
            have c12b0 : decide (x4_1 < (l0_1.length : Int)) = true := decide_eq_true c12
            clear c12
            replace H := Option.bind_eq_some_iff.mp H
            obtain ⟨t183, A130, H⟩ := H
            replace H : (if t183 = true then (knellref12_Armeds.l1 k2 x3_1 x4_1 (wrap64 (x5_2 + 1)) a0_0 l0_1) else ((some (([] : List (S127)) : List (S127))).bind fun y184 => (if x5_2 ≤ (x3_1.length : Int) then ((some (x3_1.take (x5_2 : Int).toNat : List (S127))).bind fun y187 => (if y184.length + y187.length < 4398046511104 then ((some (y184 ++ y187 : List (S127))).bind fun y191 => ((some (([(⟨(⟨(rd_T127 l0_1 x4_1).f0.f0, (rd_T127 l0_1 x4_1).f0.f1⟩ : S36), (rd_T127 l0_1 x4_1).f1, (rd_T127 l0_1 x4_1).f2⟩ : S127)] : List (S127)) : List (S127))).bind fun y195 => (if y191.length + y195.length < 4398046511104 then ((some (y191 ++ y195 : List (S127))).bind fun y198 => ((some (x3_1.drop (x5_2 : Int).toNat : List (S127))).bind fun y201 => (if y198.length + y201.length < 4398046511104 then (knellref12_Armeds.l0 k2 (y198 ++ y201) (wrap64 (x4_1 + 1)) a0_0 l0_1) else (none)))) else (none)))) else (none))) else (none)))) = some r := H
            have A13 := Aside0.mk A130
            clear A130
            by_cases c14 : t183 = true
            ·subst c14
             have H1 : (knellref12_Armeds.l1 k2 x3_1 x4_1 (wrap64 (x5_2 + 1)) a0_0 l0_1) = some r := by rw [if_pos rfl] at H; exact H
             clear H
             have H := H1
             clear H1
             have H' := Aside0.mk H
             clear H
             try go_wp2
             have n0_ := Aside0.mk (Kd.R_drew HO_3.out)
             have n1_ := Aside0.mk (blk_drew BK176.out)
             have n2_ := Aside0.mk (below_drew1 HB.out)
             clear HO_3
             clear BK176
             clear HB
             have HO_3 := n0_
             have BK176 := n1_
             have HB := n2_
             clear n0_ n1_ n2_
             obtain ⟨Ao16, co16, eo16⟩ := Kd.R_slice HO_3.out
             (first | subst eo16 | (injection eo16 with f1_ f2_ f3_; have f4_ := f1_.symm; have f5_ := f3_.symm; clear f1_ f2_ f3_; subst f4_; subst f5_))
             have p181 : 0 ≤ (x5_2 : Int) := of_decide_eq_true (by first | (with_reducible assumption) | assumption)
             have q181 : x5_2 < (x3_1.length : Int) := of_decide_eq_true (by first | (with_reducible assumption) | assumption)
             obtain ⟨ad181, e181, hx181_0, hx181_1, hx181_2, hx181_3⟩ := at_T127 (Kd.R_reads' HO_3.out).2.2 x5_2 p181 q181
             cases e181
             replace p181 := eq_true p181
             replace q181 := eq_true q181
             have p182 : 0 ≤ (x4_1 : Int) := of_decide_eq_true (by first | (with_reducible assumption) | assumption)
             have q182 : x4_1 < (l0_1.length : Int) := of_decide_eq_true (by first | (with_reducible assumption) | assumption)
             obtain ⟨ad182, e182, hx182_0, hx182_1, hx182_2, hx182_3⟩ := at_T127 HR0_1.out x4_1 p182 q182
             have hw182_3 := hx182_3
             have hw182_2 := hx182_2
             have hw182_1 := hx182_1
             have hw182_0 := hx182_0
             obtain rfl : ad180 = ad182 := (by injection e182)
             replace hx182_0 := (HB.out.cell (World.block_lt_of_cell? w _ hx182_0)).trans hx182_0
             replace hx182_1 := (HB.out.cell (World.block_lt_of_cell? w _ hx182_1)).trans hx182_1
             replace hx182_2 := (HB.out.cell (World.block_lt_of_cell? w _ hx182_2)).trans hx182_2
             replace hx182_3 := (HB.out.cell (World.block_lt_of_cell? w _ hx182_3)).trans hx182_3
             replace p182 := eq_true p182
             replace q182 := eq_true q182
             refine start_ (n := 18) (S := fun w' => w'.cell? ⟨gb176, 0, none⟩ = some (.int .i64 a0_0) ∧ w'.cell? ⟨gb176, 1, none⟩ = some (.slice (some ad180) l0_1.length c0_1) ∧ w'.cell? (ad181.add ((x5_2).toNat * 4)) = some (.int .i64 ((rd_T127 x3_1 x5_2).f0.f0)) ∧ w'.cell? ⟨(ad181.add ((x5_2).toNat * 4)).block, (ad181.add ((x5_2).toNat * 4)).off + 1, none⟩ = some (.int .i64 ((rd_T127 x3_1 x5_2).f0.f1)) ∧ w'.cell? ⟨(ad181.add ((x5_2).toNat * 4)).block, (ad181.add ((x5_2).toNat * 4)).off + 2, none⟩ = some (.int .i64 ((rd_T127 x3_1 x5_2).f1)) ∧ w'.cell? ⟨(ad181.add ((x5_2).toNat * 4)).block, (ad181.add ((x5_2).toNat * 4)).off + 3, none⟩ = some (.int .i64 ((rd_T127 x3_1 x5_2).f2)) ∧ w'.cell? (ad180.add ((x4_1).toNat * 4)) = some (.int .i64 ((rd_T127 l0_1 x4_1).f0.f0)) ∧ w'.cell? ⟨(ad180.add ((x4_1).toNat * 4)).block, (ad180.add ((x4_1).toNat * 4)).off + 1, none⟩ = some (.int .i64 ((rd_T127 l0_1 x4_1).f0.f1)) ∧ w'.cell? ⟨(ad180.add ((x4_1).toNat * 4)).block, (ad180.add ((x4_1).toNat * 4)).off + 2, none⟩ = some (.int .i64 ((rd_T127 l0_1 x4_1).f1)) ∧ w'.cell? ⟨(ad180.add ((x4_1).toNat * 4)).block, (ad180.add ((x4_1).toNat * 4)).off + 3, none⟩ = some (.int .i64 ((rd_T127 l0_1 x4_1).f2))) (ds := []) #[ff,ff,ff,ff,ff,ff,ff,ff,ff,ff,ff,ff,ff,ff,ff,ff,ff,ff] (by kernel_rfl) rfl rfl ⟨(blk_cell BK176.out 0).trans rfl, (blk_cell BK176.out 1).trans rfl, hx181_0, hx181_1, hx181_2, hx181_3, ((HB.out.cell (World.block_lt_of_cell? w _ hw182_0)).trans hw182_0), ((HB.out.cell (World.block_lt_of_cell? w _ hw182_1)).trans hw182_1), ((HB.out.cell (World.block_lt_of_cell? w _ hw182_2)).trans hw182_2), ((HB.out.cell (World.block_lt_of_cell? w _ hw182_3)).trans hw182_3)⟩ (fun hHeld => ?_); refine with_tabW knellref12_Armeds.tab7 knellref12_Armeds.bits7 (fun HT_ HW_ => ?_)
             generalize wr.drew = w15 at HO_3 BK176 HB hx181_0 hx181_1 hx181_2 hx181_3 hx182_0 hx182_1 hx182_2 hx182_3 hHeld ⊢
             refine pure_ (i := 0) (N := some 22) (v := ?_) (a' := ?_) #[tt,ff,ff,ff,ff,ff,ff,ff,ff,ff,ff,ff,ff,ff,ff,ff,ff,ff] rfl rfl (any_of HT_.out (by kernel_rfl)) (fun _ _ _ h => h) (Or.inl ⟨by rfl, ?_⟩) ?_ ?_
             rotate_left
             ·intro w'
              go_simp
              with_reducible rfl
             rotate_left
             ·simp only [Act.put, sQ0, sQ1, sQ2, i64_w]
              rfl
             refine pure_ (i := 1) (N := some 23) (v := ?_) (a' := ?_) #[tt,tt,ff,ff,ff,ff,ff,ff,ff,ff,ff,ff,ff,ff,ff,ff,ff,ff] rfl rfl (any_of HT_.out (by kernel_rfl)) (fun _ _ _ h => h) (Or.inl ⟨by rfl, ?_⟩) ?_ ?_
             rotate_left
             ·intro w'
              go_simp
              with_reducible rfl
             rotate_left
             ·simp only [Act.put, sQ0, sQ1, sQ2, i64_w]
              rfl
             refine pure_ (i := 2) (N := some 24) (v := ?_) (a' := ?_) #[tt,tt,tt,ff,ff,ff,ff,ff,ff,ff,ff,ff,ff,ff,ff,ff,ff,ff] rfl rfl (any_of HT_.out (by kernel_rfl)) (fun _ _ _ h => h) (Or.inl ⟨by rfl, ?_⟩) ?_ ?_
             rotate_left
             ·intro w'
              go_simp
              with_reducible rfl
             rotate_left
             ·simp only [Act.put, sQ0, sQ1, sQ2, i64_w]
              rfl
             refine pure_ (i := 3) (N := some 25) (v := ?_) (a' := ?_) #[tt,tt,tt,tt,ff,ff,ff,ff,ff,ff,ff,ff,ff,ff,ff,ff,ff,ff] rfl rfl (any_of HT_.out (by kernel_rfl)) (fun _ _ _ h => h) (Or.inl ⟨by rfl, ?_⟩) ?_ ?_
             rotate_left
             ·intro w'
              go_simp
              with_reducible rfl
             rotate_left
             ·simp only [Act.put, sQ0, sQ1, sQ2, i64_w]
              rfl
             refine pure_ (i := 4) (N := some 26) (v := ?_) (a' := ?_) #[tt,tt,tt,tt,tt,ff,ff,ff,ff,ff,ff,ff,ff,ff,ff,ff,ff,ff] rfl rfl (any_of HT_.out (by kernel_rfl)) (fun _ _ _ h => h) (Or.inl ⟨by rfl, ?_⟩) ?_ ?_
             rotate_left
             ·intro w'
              go_simp
              with_reducible rfl
             rotate_left
             ·simp only [Act.put, sQ0, sQ1, sQ2, i64_w]
              rfl
             refine pure_ (i := 5) (N := some 27) (v := ?_) (a' := ?_) #[tt,tt,tt,tt,tt,tt,ff,ff,ff,ff,ff,ff,ff,ff,ff,ff,ff,ff] rfl rfl (any_of HT_.out (by kernel_rfl)) (fun _ _ _ h => h) (Or.inl ⟨by rfl, ?_⟩) ?_ ?_
             rotate_left
             ·intro w'
              go_simp
              with_reducible rfl
             rotate_left
             ·simp only [Act.put, sQ0, sQ1, sQ2, i64_w]
              rfl
             refine pure_ (i := 6) (N := some 28) (v := ?_) (a' := ?_) #[tt,tt,tt,tt,tt,tt,tt,ff,ff,ff,ff,ff,ff,ff,ff,ff,ff,ff] rfl rfl (any_of HT_.out (by kernel_rfl)) (fun _ _ _ h => h) (Or.inl ⟨by rfl, ?_⟩) ?_ ?_
             rotate_left
             ·intro w'
              go_simp
              with_reducible rfl
             rotate_left
             ·simp only [Act.put, sQ0, sQ1, sQ2, i64_w]
              rfl
             refine pure_ (i := 7) (N := some 29) (v := ?_) (a' := ?_) #[tt,tt,tt,tt,tt,tt,tt,tt,ff,ff,ff,ff,ff,ff,ff,ff,ff,ff] rfl rfl (any_of HT_.out (by kernel_rfl)) (fun _ _ _ h => h) (Or.inl ⟨by rfl, ?_⟩) ?_ ?_
             rotate_left
             ·intro w'
              go_simp
              with_reducible rfl
             rotate_left
             ·simp only [Act.put, sQ0, sQ1, sQ2, i64_w]
              rfl
             refine pure_ (i := 8) (N := some 30) (v := ?_) (a' := ?_) #[tt,tt,tt,tt,tt,tt,tt,tt,tt,ff,ff,ff,ff,ff,ff,ff,ff,ff] rfl rfl (any_of HT_.out (by kernel_rfl)) (fun _ _ _ h => h) (Or.inl ⟨by rfl, ?_⟩) ?_ ?_
             rotate_left
             ·intro w'
              go_simp
              with_reducible rfl
             rotate_left
             ·simp only [Act.put, sQ0, sQ1, sQ2, i64_w]
              rfl
             refine pure_ (i := 10) (N := some 32) (v := ?_) (a' := ?_) #[tt,tt,tt,tt,tt,tt,tt,tt,tt,ff,tt,ff,ff,ff,ff,ff,ff,ff] rfl rfl (any_of HT_.out (by kernel_rfl)) (fun _ _ _ h => h) (Or.inl ⟨by rfl, ?_⟩) ?_ ?_
             rotate_left
             ·intro w'
              go_simp
              with_reducible rfl
             rotate_left
             ·simp only [Act.put, sQ0, sQ1, sQ2, i64_w]
              rfl
             refine pure_ (i := 12) (N := some 34) (v := ?_) (a' := ?_) #[tt,tt,tt,tt,tt,tt,tt,tt,tt,ff,tt,ff,tt,ff,ff,ff,ff,ff] rfl rfl (any_of HT_.out (by kernel_rfl)) (fun _ _ _ h => h) (Or.inl ⟨by rfl, ?_⟩) ?_ ?_
             rotate_left
             ·intro w'
              go_simp
              with_reducible rfl
             rotate_left
             ·simp only [Act.put, sQ0, sQ1, sQ2, i64_w]
              rfl
             refine take_ (i := 9) (N := some 31) (v := ?_) (a' := ?_) #[tt,tt,tt,tt,tt,tt,tt,tt,tt,tt,tt,ff,tt,ff,ff,ff,ff,ff] rfl rfl (take_ofW HT_.out HW_.out (by kernel_rfl)) (fun _ _ _ h => h) (Or.inl ⟨by rfl, ?_⟩) hHeld ?_ ?_
             rotate_left
             ·rintro w' ⟨s0, s1, s2, s3, s4, s5, s6, s7, s8, s9⟩
              go_simp
              with_reducible rfl
             rotate_left
             ·simp only [Act.put, sQ0, sQ1, sQ2, i64_w]
              rfl
             refine take_ (i := 11) (N := some 33) (v := ?_) (a' := ?_) #[tt,tt,tt,tt,tt,tt,tt,tt,tt,tt,tt,tt,tt,ff,ff,ff,ff,ff] rfl rfl (take_ofW HT_.out HW_.out (by kernel_rfl)) (fun _ _ _ h => h) (Or.inl ⟨by rfl, ?_⟩) hHeld ?_ ?_
             rotate_left
             ·rintro w' ⟨s0, s1, s2, s3, s4, s5, s6, s7, s8, s9⟩
              go_simp
              with_reducible rfl
             rotate_left
             ·simp only [Act.put, sQ0, sQ1, sQ2, i64_w]
              rfl
             refine pure_ (i := 13) (N := some 35) (v := ?_) (a' := ?_) #[tt,tt,tt,tt,tt,tt,tt,tt,tt,tt,tt,tt,tt,tt,ff,ff,ff,ff] rfl rfl (any_of HT_.out (by kernel_rfl)) (fun _ _ _ h => h) (Or.inl ⟨by rfl, ?_⟩) ?_ ?_
             rotate_left
             ·intro w'
              go_simp
              with_reducible rfl
             rotate_left
             ·simp only [Act.put, sQ0, sQ1, sQ2, i64_w]
              rfl
             refine pure_ (i := 14) (N := some 36) (v := ?_) (a' := ?_) #[tt,tt,tt,tt,tt,tt,tt,tt,tt,tt,tt,tt,tt,tt,tt,ff,ff,ff] rfl rfl (any_of HT_.out (by kernel_rfl)) (fun _ _ _ h => h) (Or.inl ⟨by rfl, ?_⟩) ?_ ?_
             rotate_left
             ·intro w'
              go_simp
              with_reducible rfl
             rotate_left
             ·simp only [Act.put, sQ0, sQ1, sQ2, i64_w]
              rfl
             refine take_ (i := 15) (N := some 37) (v := ?_) (a' := ?_) #[tt,tt,tt,tt,tt,tt,tt,tt,tt,tt,tt,tt,tt,tt,tt,tt,ff,ff] rfl rfl (take_ofW HT_.out HW_.out (by kernel_rfl)) (fun _ _ _ h => h) (Or.inl ⟨by rfl, ?_⟩) hHeld ?_ ?_
             rotate_left
             ·rintro w' ⟨s0, s1, s2, s3, s4, s5, s6, s7, s8, s9⟩
              go_simp
              with_reducible rfl
             rotate_left
             ·simp only [Act.put, sQ0, sQ1, sQ2, i64_w]
              rfl
             refine one_ (i := 16) (N := some 38) #[tt,tt,tt,tt,tt,tt,tt,tt,tt,tt,tt,tt,tt,tt,tt,tt,tt,ff] rfl rfl (one_of HT_.out (by kernel_rfl)) (by decide) (fun K hK => ?_)
             refine goes_ Try.func104 (by kernel_rfl) rfl #[.agg #[.int .i64 ((rd_T127 x3_1 x5_2).f0.f0), .int .i64 ((rd_T127 x3_1 x5_2).f0.f1)], .agg #[.int .i64 ((rd_T127 l0_1 x4_1).f0.f0), .int .i64 ((rd_T127 l0_1 x4_1).f0.f1)]] (by rfl) rfl rfl (by (try simp only [List.map_toArray, List.map_cons, List.map_nil]); first | done | rfl | (simp only [List.length_drop, List.length_take]; rfl)) ?_
             with_reducible refine (knellref12_before.calls ((rd_T127 x3_1 x5_2).f0.f0) ((rd_T127 x3_1 x5_2).f0.f1) ((rd_T127 l0_1 x4_1).f0.f0) ((rd_T127 l0_1 x4_1).f0.f1) true _ A13.out).mono ?_
             rintro e w17 ⟨rfl, hb⟩
             have HS2_ := (hb.cell (World.block_lt_of_cell? _ _ (hHeld.2.2.1))).trans (hHeld.2.2.1)
             have HS3_ := (hb.cell (World.block_lt_of_cell? _ _ (hHeld.2.2.2.1))).trans (hHeld.2.2.2.1)
             have HS4_ := (hb.cell (World.block_lt_of_cell? _ _ (hHeld.2.2.2.2.1))).trans (hHeld.2.2.2.2.1)
             have HS5_ := (hb.cell (World.block_lt_of_cell? _ _ (hHeld.2.2.2.2.2.1))).trans (hHeld.2.2.2.2.2.1)
             refine ⟨_, rfl, ?_⟩
             have n0_ := Aside0.mk (Kd.R_below (by (with_reducible repeat (first | apply Kd.R_alloc | apply Kd.R_drewN | apply Kd.R_drew)); exact HO_3.out) hb)
             have n1_ := Aside0.mk (blk_below (g := gb176) (o := .cells #[.int .i64 a0_0, .slice (some ad180) l0_1.length c0_1] 43 (0, 0)) (by (with_reducible repeat (first | refine blk_drewN ?_ _ | refine blk_drew ?_ | refine blk_alloc ?_ _)); exact BK176.out) hb)
             have n2_ := Aside0.mk (below_step (by repeat (first | (with_reducible first | exact HB.out | apply below_alloc | apply pw_below_drewN | apply below_drew1 | refine below_set ?_ GE176.out) | exact HB.out)) hb)
             clear HO_3
             clear BK176
             clear HB
             have HO_3 := n0_
             have BK176 := n1_
             have HB := n2_
             clear n0_ n1_ n2_
             (try clear hb)
             (try clear hb2)
             (try clear hk)
             (try clear hi)
             refine hK.out _ _ ⟨(blk_cell BK176.out 0).trans rfl, (blk_cell BK176.out 1).trans rfl, HS2_, HS3_, HS4_, HS5_, ((HB.out.cell (World.block_lt_of_cell? w _ hw182_0)).trans hw182_0), ((HB.out.cell (World.block_lt_of_cell? w _ hw182_1)).trans hw182_1), ((HB.out.cell (World.block_lt_of_cell? w _ hw182_2)).trans hw182_2), ((HB.out.cell (World.block_lt_of_cell? w _ hw182_3)).trans hw182_3)⟩ (fun hHeld => ?_)
             clear hK K
             refine norm_ (a' := ?_) ?_ ?_
             rotate_left
             ·show Act.put _ (some 38) _ = _
              simp only [Act.put, sQ0, sQ1, sQ2, i64_w]
              rfl
             refine pure_ (i := 17) (N := some 39) (v := ?_) (a' := ?_) #[tt,tt,tt,tt,tt,tt,tt,tt,tt,tt,tt,tt,tt,tt,tt,tt,tt,tt] rfl rfl (any_of HT_.out (by kernel_rfl)) (fun _ _ _ h => h) (Or.inl ⟨by rfl, ?_⟩) ?_ ?_
             rotate_left
             ·intro w'
              go_simp
              with_reducible rfl
             rotate_left
             ·simp only [Act.put, sQ0, sQ1, sQ2, i64_w]
              rfl
             refine done_ (done_of HT_.out (by kernel_rfl)) ?_
             try go_wp2
             go_roundg k2
             case measure => have := HK1.out; have := HK2.out; omega
             case rel => exact ⟨(wrap64 (x5_2 + 1)), (by first | rfl | (simp; done) | (simp [*]; done)), H', ⟨by have := HK1.out; have := HK2.out; omega⟩, ⟨by (with_reducible repeat (first | apply Kd.R_alloc | apply Kd.R_drewN | apply Kd.R_drew)); exact HO_3.out⟩, ⟨by (with_reducible repeat (first | refine blk_drewN ?_ _ | refine blk_drew ?_ | refine blk_alloc ?_ _)); exact BK176.out⟩, ⟨by repeat (first | (with_reducible first | exact HB.out | apply below_alloc | apply pw_below_drewN | apply below_drew1 | refine below_set ?_ GE176.out) | exact HB.out)⟩⟩
            ·replace c14 := Bool.eq_false_iff.mpr c14
             subst c14
             have H1 : ((some (([] : List (S127)) : List (S127))).bind fun y184 => (if x5_2 ≤ (x3_1.length : Int) then ((some (x3_1.take (x5_2 : Int).toNat : List (S127))).bind fun y187 => (if y184.length + y187.length < 4398046511104 then ((some (y184 ++ y187 : List (S127))).bind fun y191 => ((some (([(⟨(⟨(rd_T127 l0_1 x4_1).f0.f0, (rd_T127 l0_1 x4_1).f0.f1⟩ : S36), (rd_T127 l0_1 x4_1).f1, (rd_T127 l0_1 x4_1).f2⟩ : S127)] : List (S127)) : List (S127))).bind fun y195 => (if y191.length + y195.length < 4398046511104 then ((some (y191 ++ y195 : List (S127))).bind fun y198 => ((some (x3_1.drop (x5_2 : Int).toNat : List (S127))).bind fun y201 => (if y198.length + y201.length < 4398046511104 then (knellref12_Armeds.l0 k2 (y198 ++ y201) (wrap64 (x4_1 + 1)) a0_0 l0_1) else (none)))) else (none)))) else (none))) else (none))) = some r := by rw [if_neg (show ¬ (false = true) by decide)] at H; exact H
             clear H
             have H := H1
             clear H1
             obtain ⟨y184, hy184⟩ : ∃ y_ : List (S127), y_ = (([] : List (S127))) := ⟨_, rfl⟩
             replace H : (if x5_2 ≤ (x3_1.length : Int) then ((some (x3_1.take (x5_2 : Int).toNat : List (S127))).bind fun y187 => (if y184.length + y187.length < 4398046511104 then ((some (y184 ++ y187 : List (S127))).bind fun y191 => ((some (([(⟨(⟨(rd_T127 l0_1 x4_1).f0.f0, (rd_T127 l0_1 x4_1).f0.f1⟩ : S36), (rd_T127 l0_1 x4_1).f1, (rd_T127 l0_1 x4_1).f2⟩ : S127)] : List (S127)) : List (S127))).bind fun y195 => (if y191.length + y195.length < 4398046511104 then ((some (y191 ++ y195 : List (S127))).bind fun y198 => ((some (x3_1.drop (x5_2 : Int).toNat : List (S127))).bind fun y201 => (if y198.length + y201.length < 4398046511104 then (knellref12_Armeds.l0 k2 (y198 ++ y201) (wrap64 (x4_1 + 1)) a0_0 l0_1) else (none)))) else (none)))) else (none))) else (none)) = some r := by first | (rw [hy184]; with_reducible exact H) | (have H2_ := (Option.bind_some _ _).symm.trans H; rw [hy184]; with_reducible exact H2_) | (have H2_ := (Option.bind_some _ _).symm.trans H; with_reducible exact H2_) | with_reducible exact H | (rw [hy184]; exact H) | exact H
             have Ny184 := Aside0.mk hy184
             clear hy184
             have c18b0 := eq_true (of_decide_eq_true (by first | (with_reducible assumption) | assumption) : 0 ≤ x5_2)
             by_cases c19 : x5_2 ≤ (x3_1.length : Int)
             ·rw [if_pos c19] at H
              have c19b0 := eq_true c19
              have c19b1 : decide (x5_2 ≤ (x3_1.length : Int)) = true := decide_eq_true c19
              clear c19
              obtain ⟨y187, hy187⟩ : ∃ y_ : List (S127), y_ = (x3_1.take (x5_2 : Int).toNat) := ⟨_, rfl⟩
              replace H : (if y184.length + y187.length < 4398046511104 then ((some (y184 ++ y187 : List (S127))).bind fun y191 => ((some (([(⟨(⟨(rd_T127 l0_1 x4_1).f0.f0, (rd_T127 l0_1 x4_1).f0.f1⟩ : S36), (rd_T127 l0_1 x4_1).f1, (rd_T127 l0_1 x4_1).f2⟩ : S127)] : List (S127)) : List (S127))).bind fun y195 => (if y191.length + y195.length < 4398046511104 then ((some (y191 ++ y195 : List (S127))).bind fun y198 => ((some (x3_1.drop (x5_2 : Int).toNat : List (S127))).bind fun y201 => (if y198.length + y201.length < 4398046511104 then (knellref12_Armeds.l0 k2 (y198 ++ y201) (wrap64 (x4_1 + 1)) a0_0 l0_1) else (none)))) else (none)))) else (none)) = some r := by first | (rw [hy187]; with_reducible exact H) | (have H2_ := (Option.bind_some _ _).symm.trans H; rw [hy187]; with_reducible exact H2_) | (have H2_ := (Option.bind_some _ _).symm.trans H; with_reducible exact H2_) | with_reducible exact H | (rw [hy187]; exact H) | exact H
              have Ny187 := Aside0.mk hy187
              clear hy187
              by_cases c20 : y184.length + y187.length < 4398046511104
              ·rw [if_pos c20] at H
               have LMc20 := Aside0.mk c20
               clear c20
               obtain ⟨y191, hy191⟩ : ∃ y_ : List (S127), y_ = (y184 ++ y187) := ⟨_, rfl⟩
               replace H : ((some (([(⟨(⟨(rd_T127 l0_1 x4_1).f0.f0, (rd_T127 l0_1 x4_1).f0.f1⟩ : S36), (rd_T127 l0_1 x4_1).f1, (rd_T127 l0_1 x4_1).f2⟩ : S127)] : List (S127)) : List (S127))).bind fun y195 => (if y191.length + y195.length < 4398046511104 then ((some (y191 ++ y195 : List (S127))).bind fun y198 => ((some (x3_1.drop (x5_2 : Int).toNat : List (S127))).bind fun y201 => (if y198.length + y201.length < 4398046511104 then (knellref12_Armeds.l0 k2 (y198 ++ y201) (wrap64 (x4_1 + 1)) a0_0 l0_1) else (none)))) else (none))) = some r := by first | (rw [hy191]; with_reducible exact H) | (have H2_ := (Option.bind_some _ _).symm.trans H; rw [hy191]; with_reducible exact H2_) | (have H2_ := (Option.bind_some _ _).symm.trans H; with_reducible exact H2_) | with_reducible exact H | (rw [hy191]; exact H) | exact H
               have Ny191 := Aside0.mk hy191
               clear hy191
               obtain ⟨y195, hy195⟩ : ∃ y_ : List (S127), y_ = (([(⟨(⟨(rd_T127 l0_1 x4_1).f0.f0, (rd_T127 l0_1 x4_1).f0.f1⟩ : S36), (rd_T127 l0_1 x4_1).f1, (rd_T127 l0_1 x4_1).f2⟩ : S127)] : List (S127))) := ⟨_, rfl⟩
               replace H : (if y191.length + y195.length < 4398046511104 then ((some (y191 ++ y195 : List (S127))).bind fun y198 => ((some (x3_1.drop (x5_2 : Int).toNat : List (S127))).bind fun y201 => (if y198.length + y201.length < 4398046511104 then (knellref12_Armeds.l0 k2 (y198 ++ y201) (wrap64 (x4_1 + 1)) a0_0 l0_1) else (none)))) else (none)) = some r := by first | (rw [hy195]; with_reducible exact H) | (have H2_ := (Option.bind_some _ _).symm.trans H; rw [hy195]; with_reducible exact H2_) | (have H2_ := (Option.bind_some _ _).symm.trans H; with_reducible exact H2_) | with_reducible exact H | (rw [hy195]; exact H) | exact H
               have Ny195 := Aside0.mk hy195
               clear hy195
               by_cases c21 : y191.length + y195.length < 4398046511104
               ·rw [if_pos c21] at H
                have LMc21 := Aside0.mk c21
                clear c21
                obtain ⟨y198, hy198⟩ : ∃ y_ : List (S127), y_ = (y191 ++ y195) := ⟨_, rfl⟩
                replace H : ((some (x3_1.drop (x5_2 : Int).toNat : List (S127))).bind fun y201 => (if y198.length + y201.length < 4398046511104 then (knellref12_Armeds.l0 k2 (y198 ++ y201) (wrap64 (x4_1 + 1)) a0_0 l0_1) else (none))) = some r := by first | (rw [hy198]; with_reducible exact H) | (have H2_ := (Option.bind_some _ _).symm.trans H; rw [hy198]; with_reducible exact H2_) | (have H2_ := (Option.bind_some _ _).symm.trans H; with_reducible exact H2_) | with_reducible exact H | (rw [hy198]; exact H) | exact H
                have Ny198 := Aside0.mk hy198
                clear hy198
                have c22b0 := eq_true (of_decide_eq_true (by first | (with_reducible assumption) | assumption) : 0 ≤ x5_2)
                have c23b0 := eq_true (of_decide_eq_true (by first | (with_reducible assumption) | assumption) : x5_2 ≤ (x3_1.length : Int))
                obtain ⟨y201, hy201⟩ : ∃ y_ : List (S127), y_ = (x3_1.drop (x5_2 : Int).toNat) := ⟨_, rfl⟩
                replace H : (if y198.length + y201.length < 4398046511104 then (knellref12_Armeds.l0 k2 (y198 ++ y201) (wrap64 (x4_1 + 1)) a0_0 l0_1) else (none)) = some r := by first | (rw [hy201]; with_reducible exact H) | (have H2_ := (Option.bind_some _ _).symm.trans H; rw [hy201]; with_reducible exact H2_) | (have H2_ := (Option.bind_some _ _).symm.trans H; with_reducible exact H2_) | with_reducible exact H | (rw [hy201]; exact H) | exact H
                have Ny201 := Aside0.mk hy201
                clear hy201
                by_cases c24 : y198.length + y201.length < 4398046511104
                ·rw [if_pos c24] at H
                 have LMc24 := Aside0.mk c24
                 clear c24
                 obtain ⟨y205, hy205⟩ : ∃ y_ : List (S127), y_ = (y198 ++ y201) := ⟨_, rfl⟩
                 replace H : (knellref12_Armeds.l0 k2 y205 (wrap64 (x4_1 + 1)) a0_0 l0_1) = some r := by first | (rw [hy205]; with_reducible exact H) | (have H2_ := (Option.bind_some _ _).symm.trans H; rw [hy205]; with_reducible exact H2_) | (have H2_ := (Option.bind_some _ _).symm.trans H; with_reducible exact H2_) | with_reducible exact H | (rw [hy205]; exact H) | exact H
                 have Ny205 := Aside0.mk hy205
                 clear hy205
                 have H' := Aside0.mk H
                 clear H
                 try go_wp2
                 have n0_ := Aside0.mk (Kd.R_drew HO_3.out)
                 have n1_ := Aside0.mk (blk_drew BK176.out)
                 have n2_ := Aside0.mk (below_drew1 HB.out)
                 clear HO_3
                 clear BK176
                 clear HB
                 have HO_3 := n0_
                 have BK176 := n1_
                 have HB := n2_
                 clear n0_ n1_ n2_
                 obtain ⟨Ao26, co26, eo26⟩ := Kd.R_slice HO_3.out
                 (first | subst eo26 | (injection eo26 with f1_ f2_ f3_; have f4_ := f1_.symm; have f5_ := f3_.symm; clear f1_ f2_ f3_; subst f4_; subst f5_))
                 have p181 : 0 ≤ (x5_2 : Int) := of_decide_eq_true (by first | (with_reducible assumption) | assumption)
                 have q181 : x5_2 < (x3_1.length : Int) := of_decide_eq_true (by first | (with_reducible assumption) | assumption)
                 obtain ⟨ad181, e181, hx181_0, hx181_1, hx181_2, hx181_3⟩ := at_T127 (Kd.R_reads' HO_3.out).2.2 x5_2 p181 q181
                 cases e181
                 replace p181 := eq_true p181
                 replace q181 := eq_true q181
                 have p182 : 0 ≤ (x4_1 : Int) := of_decide_eq_true (by first | (with_reducible assumption) | assumption)
                 have q182 : x4_1 < (l0_1.length : Int) := of_decide_eq_true (by first | (with_reducible assumption) | assumption)
                 obtain ⟨ad182, e182, hx182_0, hx182_1, hx182_2, hx182_3⟩ := at_T127 HR0_1.out x4_1 p182 q182
                 have hw182_3 := hx182_3
                 have hw182_2 := hx182_2
                 have hw182_1 := hx182_1
                 have hw182_0 := hx182_0
                 obtain rfl : ad180 = ad182 := (by injection e182)
                 replace hx182_0 := (HB.out.cell (World.block_lt_of_cell? w _ hx182_0)).trans hx182_0
                 replace hx182_1 := (HB.out.cell (World.block_lt_of_cell? w _ hx182_1)).trans hx182_1
                 replace hx182_2 := (HB.out.cell (World.block_lt_of_cell? w _ hx182_2)).trans hx182_2
                 replace hx182_3 := (HB.out.cell (World.block_lt_of_cell? w _ hx182_3)).trans hx182_3
                 replace p182 := eq_true p182
                 replace q182 := eq_true q182
                 refine start_ (n := 18) (S := fun w' => w'.cell? ⟨gb176, 0, none⟩ = some (.int .i64 a0_0) ∧ w'.cell? ⟨gb176, 1, none⟩ = some (.slice (some ad180) l0_1.length c0_1) ∧ w'.cell? (ad181.add ((x5_2).toNat * 4)) = some (.int .i64 ((rd_T127 x3_1 x5_2).f0.f0)) ∧ w'.cell? ⟨(ad181.add ((x5_2).toNat * 4)).block, (ad181.add ((x5_2).toNat * 4)).off + 1, none⟩ = some (.int .i64 ((rd_T127 x3_1 x5_2).f0.f1)) ∧ w'.cell? ⟨(ad181.add ((x5_2).toNat * 4)).block, (ad181.add ((x5_2).toNat * 4)).off + 2, none⟩ = some (.int .i64 ((rd_T127 x3_1 x5_2).f1)) ∧ w'.cell? ⟨(ad181.add ((x5_2).toNat * 4)).block, (ad181.add ((x5_2).toNat * 4)).off + 3, none⟩ = some (.int .i64 ((rd_T127 x3_1 x5_2).f2)) ∧ w'.cell? (ad180.add ((x4_1).toNat * 4)) = some (.int .i64 ((rd_T127 l0_1 x4_1).f0.f0)) ∧ w'.cell? ⟨(ad180.add ((x4_1).toNat * 4)).block, (ad180.add ((x4_1).toNat * 4)).off + 1, none⟩ = some (.int .i64 ((rd_T127 l0_1 x4_1).f0.f1)) ∧ w'.cell? ⟨(ad180.add ((x4_1).toNat * 4)).block, (ad180.add ((x4_1).toNat * 4)).off + 2, none⟩ = some (.int .i64 ((rd_T127 l0_1 x4_1).f1)) ∧ w'.cell? ⟨(ad180.add ((x4_1).toNat * 4)).block, (ad180.add ((x4_1).toNat * 4)).off + 3, none⟩ = some (.int .i64 ((rd_T127 l0_1 x4_1).f2))) (ds := []) #[ff,ff,ff,ff,ff,ff,ff,ff,ff,ff,ff,ff,ff,ff,ff,ff,ff,ff] (by kernel_rfl) rfl rfl ⟨(blk_cell BK176.out 0).trans rfl, (blk_cell BK176.out 1).trans rfl, hx181_0, hx181_1, hx181_2, hx181_3, ((HB.out.cell (World.block_lt_of_cell? w _ hw182_0)).trans hw182_0), ((HB.out.cell (World.block_lt_of_cell? w _ hw182_1)).trans hw182_1), ((HB.out.cell (World.block_lt_of_cell? w _ hw182_2)).trans hw182_2), ((HB.out.cell (World.block_lt_of_cell? w _ hw182_3)).trans hw182_3)⟩ (fun hHeld => ?_); refine with_tabW knellref12_Armeds.tab7 knellref12_Armeds.bits7 (fun HT_ HW_ => ?_)
                 generalize wr.drew = w25 at HO_3 BK176 HB hx181_0 hx181_1 hx181_2 hx181_3 hx182_0 hx182_1 hx182_2 hx182_3 hHeld ⊢
                 refine pure_ (i := 0) (N := some 22) (v := ?_) (a' := ?_) #[tt,ff,ff,ff,ff,ff,ff,ff,ff,ff,ff,ff,ff,ff,ff,ff,ff,ff] rfl rfl (any_of HT_.out (by kernel_rfl)) (fun _ _ _ h => h) (Or.inl ⟨by rfl, ?_⟩) ?_ ?_
                 rotate_left
                 ·intro w'
                  go_simp
                  with_reducible rfl
                 rotate_left
                 ·simp only [Act.put, sQ0, sQ1, sQ2, i64_w]
                  rfl
                 refine pure_ (i := 1) (N := some 23) (v := ?_) (a' := ?_) #[tt,tt,ff,ff,ff,ff,ff,ff,ff,ff,ff,ff,ff,ff,ff,ff,ff,ff] rfl rfl (any_of HT_.out (by kernel_rfl)) (fun _ _ _ h => h) (Or.inl ⟨by rfl, ?_⟩) ?_ ?_
                 rotate_left
                 ·intro w'
                  go_simp
                  with_reducible rfl
                 rotate_left
                 ·simp only [Act.put, sQ0, sQ1, sQ2, i64_w]
                  rfl
                 refine pure_ (i := 2) (N := some 24) (v := ?_) (a' := ?_) #[tt,tt,tt,ff,ff,ff,ff,ff,ff,ff,ff,ff,ff,ff,ff,ff,ff,ff] rfl rfl (any_of HT_.out (by kernel_rfl)) (fun _ _ _ h => h) (Or.inl ⟨by rfl, ?_⟩) ?_ ?_
                 rotate_left
                 ·intro w'
                  go_simp
                  with_reducible rfl
                 rotate_left
                 ·simp only [Act.put, sQ0, sQ1, sQ2, i64_w]
                  rfl
                 refine pure_ (i := 3) (N := some 25) (v := ?_) (a' := ?_) #[tt,tt,tt,tt,ff,ff,ff,ff,ff,ff,ff,ff,ff,ff,ff,ff,ff,ff] rfl rfl (any_of HT_.out (by kernel_rfl)) (fun _ _ _ h => h) (Or.inl ⟨by rfl, ?_⟩) ?_ ?_
                 rotate_left
                 ·intro w'
                  go_simp
                  with_reducible rfl
                 rotate_left
                 ·simp only [Act.put, sQ0, sQ1, sQ2, i64_w]
                  rfl
                 refine pure_ (i := 4) (N := some 26) (v := ?_) (a' := ?_) #[tt,tt,tt,tt,tt,ff,ff,ff,ff,ff,ff,ff,ff,ff,ff,ff,ff,ff] rfl rfl (any_of HT_.out (by kernel_rfl)) (fun _ _ _ h => h) (Or.inl ⟨by rfl, ?_⟩) ?_ ?_
                 rotate_left
                 ·intro w'
                  go_simp
                  with_reducible rfl
                 rotate_left
                 ·simp only [Act.put, sQ0, sQ1, sQ2, i64_w]
                  rfl
                 refine pure_ (i := 5) (N := some 27) (v := ?_) (a' := ?_) #[tt,tt,tt,tt,tt,tt,ff,ff,ff,ff,ff,ff,ff,ff,ff,ff,ff,ff] rfl rfl (any_of HT_.out (by kernel_rfl)) (fun _ _ _ h => h) (Or.inl ⟨by rfl, ?_⟩) ?_ ?_
                 rotate_left
                 ·intro w'
                  go_simp
                  with_reducible rfl
                 rotate_left
                 ·simp only [Act.put, sQ0, sQ1, sQ2, i64_w]
                  rfl
                 refine pure_ (i := 6) (N := some 28) (v := ?_) (a' := ?_) #[tt,tt,tt,tt,tt,tt,tt,ff,ff,ff,ff,ff,ff,ff,ff,ff,ff,ff] rfl rfl (any_of HT_.out (by kernel_rfl)) (fun _ _ _ h => h) (Or.inl ⟨by rfl, ?_⟩) ?_ ?_
                 rotate_left
                 ·intro w'
                  go_simp
                  with_reducible rfl
                 rotate_left
                 ·simp only [Act.put, sQ0, sQ1, sQ2, i64_w]
                  rfl
                 refine pure_ (i := 7) (N := some 29) (v := ?_) (a' := ?_) #[tt,tt,tt,tt,tt,tt,tt,tt,ff,ff,ff,ff,ff,ff,ff,ff,ff,ff] rfl rfl (any_of HT_.out (by kernel_rfl)) (fun _ _ _ h => h) (Or.inl ⟨by rfl, ?_⟩) ?_ ?_
                 rotate_left
                 ·intro w'
                  go_simp
                  with_reducible rfl
                 rotate_left
                 ·simp only [Act.put, sQ0, sQ1, sQ2, i64_w]
                  rfl
                 refine pure_ (i := 8) (N := some 30) (v := ?_) (a' := ?_) #[tt,tt,tt,tt,tt,tt,tt,tt,tt,ff,ff,ff,ff,ff,ff,ff,ff,ff] rfl rfl (any_of HT_.out (by kernel_rfl)) (fun _ _ _ h => h) (Or.inl ⟨by rfl, ?_⟩) ?_ ?_
                 rotate_left
                 ·intro w'
                  go_simp
                  with_reducible rfl
                 rotate_left
                 ·simp only [Act.put, sQ0, sQ1, sQ2, i64_w]
                  rfl
                 refine pure_ (i := 10) (N := some 32) (v := ?_) (a' := ?_) #[tt,tt,tt,tt,tt,tt,tt,tt,tt,ff,tt,ff,ff,ff,ff,ff,ff,ff] rfl rfl (any_of HT_.out (by kernel_rfl)) (fun _ _ _ h => h) (Or.inl ⟨by rfl, ?_⟩) ?_ ?_
                 rotate_left
                 ·intro w'
                  go_simp
                  with_reducible rfl
                 rotate_left
                 ·simp only [Act.put, sQ0, sQ1, sQ2, i64_w]
                  rfl
                 refine pure_ (i := 12) (N := some 34) (v := ?_) (a' := ?_) #[tt,tt,tt,tt,tt,tt,tt,tt,tt,ff,tt,ff,tt,ff,ff,ff,ff,ff] rfl rfl (any_of HT_.out (by kernel_rfl)) (fun _ _ _ h => h) (Or.inl ⟨by rfl, ?_⟩) ?_ ?_
                 rotate_left
                 ·intro w'
                  go_simp
                  with_reducible rfl
                 rotate_left
                 ·simp only [Act.put, sQ0, sQ1, sQ2, i64_w]
                  rfl
                 refine take_ (i := 9) (N := some 31) (v := ?_) (a' := ?_) #[tt,tt,tt,tt,tt,tt,tt,tt,tt,tt,tt,ff,tt,ff,ff,ff,ff,ff] rfl rfl (take_ofW HT_.out HW_.out (by kernel_rfl)) (fun _ _ _ h => h) (Or.inl ⟨by rfl, ?_⟩) hHeld ?_ ?_
                 rotate_left
                 ·rintro w' ⟨s0, s1, s2, s3, s4, s5, s6, s7, s8, s9⟩
                  go_simp
                  with_reducible rfl
                 rotate_left
                 ·simp only [Act.put, sQ0, sQ1, sQ2, i64_w]
                  rfl
                 refine take_ (i := 11) (N := some 33) (v := ?_) (a' := ?_) #[tt,tt,tt,tt,tt,tt,tt,tt,tt,tt,tt,tt,tt,ff,ff,ff,ff,ff] rfl rfl (take_ofW HT_.out HW_.out (by kernel_rfl)) (fun _ _ _ h => h) (Or.inl ⟨by rfl, ?_⟩) hHeld ?_ ?_
                 rotate_left
                 ·rintro w' ⟨s0, s1, s2, s3, s4, s5, s6, s7, s8, s9⟩
                  go_simp
                  with_reducible rfl
                 rotate_left
                 ·simp only [Act.put, sQ0, sQ1, sQ2, i64_w]
                  rfl
                 refine pure_ (i := 13) (N := some 35) (v := ?_) (a' := ?_) #[tt,tt,tt,tt,tt,tt,tt,tt,tt,tt,tt,tt,tt,tt,ff,ff,ff,ff] rfl rfl (any_of HT_.out (by kernel_rfl)) (fun _ _ _ h => h) (Or.inl ⟨by rfl, ?_⟩) ?_ ?_
                 rotate_left
                 ·intro w'
                  go_simp
                  with_reducible rfl
                 rotate_left
                 ·simp only [Act.put, sQ0, sQ1, sQ2, i64_w]
                  rfl
                 refine pure_ (i := 14) (N := some 36) (v := ?_) (a' := ?_) #[tt,tt,tt,tt,tt,tt,tt,tt,tt,tt,tt,tt,tt,tt,tt,ff,ff,ff] rfl rfl (any_of HT_.out (by kernel_rfl)) (fun _ _ _ h => h) (Or.inl ⟨by rfl, ?_⟩) ?_ ?_
                 rotate_left
                 ·intro w'
                  go_simp
                  with_reducible rfl
                 rotate_left
                 ·simp only [Act.put, sQ0, sQ1, sQ2, i64_w]
                  rfl
                 refine take_ (i := 15) (N := some 37) (v := ?_) (a' := ?_) #[tt,tt,tt,tt,tt,tt,tt,tt,tt,tt,tt,tt,tt,tt,tt,tt,ff,ff] rfl rfl (take_ofW HT_.out HW_.out (by kernel_rfl)) (fun _ _ _ h => h) (Or.inl ⟨by rfl, ?_⟩) hHeld ?_ ?_
                 rotate_left
                 ·rintro w' ⟨s0, s1, s2, s3, s4, s5, s6, s7, s8, s9⟩
                  go_simp
                  with_reducible rfl
                 rotate_left
                 ·simp only [Act.put, sQ0, sQ1, sQ2, i64_w]
                  rfl
                 refine one_ (i := 16) (N := some 38) #[tt,tt,tt,tt,tt,tt,tt,tt,tt,tt,tt,tt,tt,tt,tt,tt,tt,ff] rfl rfl (one_of HT_.out (by kernel_rfl)) (by decide) (fun K hK => ?_)
                 refine goes_ Try.func104 (by kernel_rfl) rfl #[.agg #[.int .i64 ((rd_T127 x3_1 x5_2).f0.f0), .int .i64 ((rd_T127 x3_1 x5_2).f0.f1)], .agg #[.int .i64 ((rd_T127 l0_1 x4_1).f0.f0), .int .i64 ((rd_T127 l0_1 x4_1).f0.f1)]] (by rfl) rfl rfl (by (try simp only [List.map_toArray, List.map_cons, List.map_nil]); first | done | rfl | (simp only [List.length_drop, List.length_take]; rfl)) ?_
                 with_reducible refine (knellref12_before.calls ((rd_T127 x3_1 x5_2).f0.f0) ((rd_T127 x3_1 x5_2).f0.f1) ((rd_T127 l0_1 x4_1).f0.f0) ((rd_T127 l0_1 x4_1).f0.f1) false _ A13.out).mono ?_
                 rintro e w27 ⟨rfl, hb⟩
                 have HS2_ := (hb.cell (World.block_lt_of_cell? _ _ (hHeld.2.2.1))).trans (hHeld.2.2.1)
                 have HS3_ := (hb.cell (World.block_lt_of_cell? _ _ (hHeld.2.2.2.1))).trans (hHeld.2.2.2.1)
                 have HS4_ := (hb.cell (World.block_lt_of_cell? _ _ (hHeld.2.2.2.2.1))).trans (hHeld.2.2.2.2.1)
                 have HS5_ := (hb.cell (World.block_lt_of_cell? _ _ (hHeld.2.2.2.2.2.1))).trans (hHeld.2.2.2.2.2.1)
                 refine ⟨_, rfl, ?_⟩
                 have n0_ := Aside0.mk (Kd.R_below (by (with_reducible repeat (first | apply Kd.R_alloc | apply Kd.R_drewN | apply Kd.R_drew)); exact HO_3.out) hb)
                 have n1_ := Aside0.mk (blk_below (g := gb176) (o := .cells #[.int .i64 a0_0, .slice (some ad180) l0_1.length c0_1] 43 (0, 0)) (by (with_reducible repeat (first | refine blk_drewN ?_ _ | refine blk_drew ?_ | refine blk_alloc ?_ _)); exact BK176.out) hb)
                 have n2_ := Aside0.mk (below_step (by repeat (first | (with_reducible first | exact HB.out | apply below_alloc | apply pw_below_drewN | apply below_drew1 | refine below_set ?_ GE176.out) | exact HB.out)) hb)
                 clear HO_3
                 clear BK176
                 clear HB
                 have HO_3 := n0_
                 have BK176 := n1_
                 have HB := n2_
                 clear n0_ n1_ n2_
                 (try clear hb)
                 (try clear hb2)
                 (try clear hk)
                 (try clear hi)
                 refine hK.out _ _ ⟨(blk_cell BK176.out 0).trans rfl, (blk_cell BK176.out 1).trans rfl, HS2_, HS3_, HS4_, HS5_, ((HB.out.cell (World.block_lt_of_cell? w _ hw182_0)).trans hw182_0), ((HB.out.cell (World.block_lt_of_cell? w _ hw182_1)).trans hw182_1), ((HB.out.cell (World.block_lt_of_cell? w _ hw182_2)).trans hw182_2), ((HB.out.cell (World.block_lt_of_cell? w _ hw182_3)).trans hw182_3)⟩ (fun hHeld => ?_)
                 clear hK K
                 refine norm_ (a' := ?_) ?_ ?_
                 rotate_left
                 ·show Act.put _ (some 38) _ = _
                  simp only [Act.put, sQ0, sQ1, sQ2, i64_w]
                  rfl
                 refine pure_ (i := 17) (N := some 39) (v := ?_) (a' := ?_) #[tt,tt,tt,tt,tt,tt,tt,tt,tt,tt,tt,tt,tt,tt,tt,tt,tt,tt] rfl rfl (any_of HT_.out (by kernel_rfl)) (fun _ _ _ h => h) (Or.inl ⟨by rfl, ?_⟩) ?_ ?_
                 rotate_left
                 ·intro w'
                  go_simp
                  with_reducible rfl
                 rotate_left
                 ·simp only [Act.put, sQ0, sQ1, sQ2, i64_w]
                  rfl
                 refine done_ (done_of HT_.out (by kernel_rfl)) ?_
                 try go_wp2
                 have n0_ := Aside0.mk (Kd.R_drew HO_3.out)
                 have n1_ := Aside0.mk (blk_drew BK176.out)
                 have n2_ := Aside0.mk (below_drew1 HB.out)
                 clear HO_3
                 clear BK176
                 clear HB
                 have HO_3 := n0_
                 have BK176 := n1_
                 have HB := n2_
                 clear n0_ n1_ n2_
                 have q29 : (x5_2 : Int) ≤ ((x3_1.length : Int) : Int) := of_decide_eq_true (by first | (with_reducible assumption) | assumption)
                 obtain ⟨i029, hi029, _, hsz29, _⟩ := info_parts info127
                 have hroom29 : x3_1.length ≤ co26 := (Kd.R_reads' HO_3.out).2.1
                 have hC29 : Kd.C k127 _ (some ad181) x3_1.length x3_1 := (Kd.R_reads' HO_3.out).2.2
                 have hcut29 := cut_to (P := Try.prog) 41 127 .i64 Try.underlying41 hi029 (some ad181) x3_1.length co26 x5_2 (of_decide_eq_true (by first | (with_reducible assumption) | assumption)) q29 hroom29
                 have hr29 := Kd.C_take (m := (x5_2 : Int).toNat) hC29 (by omega)
                 have hy29 : y187.length = (x5_2 : Int).toNat := (by rw [Ny187.out, List.length_take]; omega)
                 rw [← Ny187.out] at hr29
                 rw [← hy29] at hcut29
                 have HR190 := Aside0.mk hr29
                 have HC190 := Aside0.mk (show y187.length ≤ co26 from by omega)
                 clear hr29 hC29 hroom29 hi029 hsz29
                 have KY29 := Aside0.mk hy29
                 clear hy29
                 have KL29 := Aside0.mk (show (x5_2 : Int).toNat ≤ x3_1.length from by omega)
                 replace q29 := eq_true q29
                 have p194 : 0 ≤ (x4_1 : Int) := of_decide_eq_true (by first | (with_reducible assumption) | assumption)
                 have q194 : x4_1 < (l0_1.length : Int) := of_decide_eq_true (by first | (with_reducible assumption) | assumption)
                 obtain ⟨ad194, e194, hx194_0, hx194_1, hx194_2, hx194_3⟩ := at_T127 HR0_1.out x4_1 p194 q194
                 have hw194_3 := hx194_3
                 have hw194_2 := hx194_2
                 have hw194_1 := hx194_1
                 have hw194_0 := hx194_0
                 obtain rfl : ad180 = ad194 := (by injection e194)
                 replace hx194_0 := (HB.out.cell (World.block_lt_of_cell? w _ hx194_0)).trans hx194_0
                 replace hx194_1 := (HB.out.cell (World.block_lt_of_cell? w _ hx194_1)).trans hx194_1
                 replace hx194_2 := (HB.out.cell (World.block_lt_of_cell? w _ hx194_2)).trans hx194_2
                 replace hx194_3 := (HB.out.cell (World.block_lt_of_cell? w _ hx194_3)).trans hx194_3
                 replace p194 := eq_true p194
                 replace q194 := eq_true q194
                 refine start_ (n := 13) (S := fun w' => w'.cell? ⟨gb176, 0, none⟩ = some (.int .i64 a0_0) ∧ w'.cell? ⟨gb176, 1, none⟩ = some (.slice (some ad180) l0_1.length c0_1) ∧ w'.cell? (ad180.add ((x4_1).toNat * 4)) = some (.int .i64 ((rd_T127 l0_1 x4_1).f0.f0)) ∧ w'.cell? ⟨(ad180.add ((x4_1).toNat * 4)).block, (ad180.add ((x4_1).toNat * 4)).off + 1, none⟩ = some (.int .i64 ((rd_T127 l0_1 x4_1).f0.f1)) ∧ w'.cell? ⟨(ad180.add ((x4_1).toNat * 4)).block, (ad180.add ((x4_1).toNat * 4)).off + 2, none⟩ = some (.int .i64 ((rd_T127 l0_1 x4_1).f1)) ∧ w'.cell? ⟨(ad180.add ((x4_1).toNat * 4)).block, (ad180.add ((x4_1).toNat * 4)).off + 3, none⟩ = some (.int .i64 ((rd_T127 l0_1 x4_1).f2))) (ds := []) #[ff,ff,ff,ff,ff,ff,ff,ff,ff,ff,ff,ff,ff] (by kernel_rfl) rfl rfl ⟨(blk_cell BK176.out 0).trans rfl, (blk_cell BK176.out 1).trans rfl, ((HB.out.cell (World.block_lt_of_cell? w _ hw194_0)).trans hw194_0), ((HB.out.cell (World.block_lt_of_cell? w _ hw194_1)).trans hw194_1), ((HB.out.cell (World.block_lt_of_cell? w _ hw194_2)).trans hw194_2), ((HB.out.cell (World.block_lt_of_cell? w _ hw194_3)).trans hw194_3)⟩ (fun hHeld => ?_); refine with_tabW knellref12_Armeds.tab9 knellref12_Armeds.bits9 (fun HT_ HW_ => ?_)
                 generalize w27.drew = w28 at HO_3 BK176 HB HR190 hx194_0 hx194_1 hx194_2 hx194_3 hHeld ⊢
                 refine pure_ (i := 1) (N := some 43) (v := ?_) (a' := ?_) #[ff,tt,ff,ff,ff,ff,ff,ff,ff,ff,ff,ff,ff] rfl rfl (any_of HT_.out (by kernel_rfl)) (fun _ _ _ h => h) (Or.inl ⟨by rfl, ?_⟩) ?_ ?_
                 rotate_left
                 ·intro w'
                  go_simp
                  with_reducible rfl
                 rotate_left
                 ·simp only [Act.put, sQ0, sQ1, sQ2, i64_w]
                  rfl
                 refine pure_ (i := 2) (N := some 44) (v := ?_) (a' := ?_) #[ff,tt,tt,ff,ff,ff,ff,ff,ff,ff,ff,ff,ff] rfl rfl (any_of HT_.out (by kernel_rfl)) (fun _ _ _ h => h) (Or.inl ⟨by rfl, ?_⟩) ?_ ?_
                 rotate_left
                 ·intro w'
                  go_simp
                  with_reducible rfl
                 rotate_left
                 ·simp only [Act.put, sQ0, sQ1, sQ2, i64_w]
                  rfl
                 refine pure_ (i := 3) (N := some 45) (v := ?_) (a' := ?_) #[ff,tt,tt,tt,ff,ff,ff,ff,ff,ff,ff,ff,ff] rfl rfl (any_of HT_.out (by kernel_rfl)) (fun _ _ _ h => h) (Or.inl ⟨by rfl, ?_⟩) ?_ ?_
                 rotate_left
                 ·intro w'
                  go_simp
                  with_reducible rfl
                 rotate_left
                 ·simp only [Act.put, sQ0, sQ1, sQ2, i64_w]
                  rfl
                 refine pure_ (i := 5) (N := some 47) (v := ?_) (a' := ?_) #[ff,tt,tt,tt,ff,tt,ff,ff,ff,ff,ff,ff,ff] rfl rfl (any_of HT_.out (by kernel_rfl)) (fun _ _ _ h => h) (Or.inl ⟨by rfl, ?_⟩) ?_ ?_
                 rotate_left
                 ·intro w'
                  go_simp
                  with_reducible rfl
                 rotate_left
                 ·simp only [Act.put, sQ0, sQ1, sQ2, i64_w]
                  rfl
                 refine pure_ (i := 7) (N := some 49) (v := ?_) (a' := ?_) #[ff,tt,tt,tt,ff,tt,ff,tt,ff,ff,ff,ff,ff] rfl rfl (any_of HT_.out (by kernel_rfl)) (fun _ _ _ h => h) (Or.inl ⟨by rfl, ?_⟩) ?_ ?_
                 rotate_left
                 ·intro w'
                  go_simp
                  with_reducible rfl
                 rotate_left
                 ·simp only [Act.put, sQ0, sQ1, sQ2, i64_w]
                  rfl
                 refine take_ (i := 6) (N := some 48) (v := ?_) (a' := ?_) #[ff,tt,tt,tt,ff,tt,tt,tt,ff,ff,ff,ff,ff] rfl rfl (take_ofW HT_.out HW_.out (by kernel_rfl)) (fun _ _ _ h => h) (Or.inl ⟨by rfl, ?_⟩) hHeld ?_ ?_
                 rotate_left
                 ·rintro w' ⟨s0, s1, s2, s3, s4, s5⟩
                  go_simp
                  with_reducible rfl
                 rotate_left
                 ·simp only [Act.put, sQ0, sQ1, sQ2, i64_w]
                  rfl
                 refine pure_ (i := 8) (N := some 50) (v := ?_) (a' := ?_) #[ff,tt,tt,tt,ff,tt,tt,tt,tt,ff,ff,ff,ff] rfl rfl (any_of HT_.out (by kernel_rfl)) (fun _ _ _ h => h) (Or.inl ⟨by rfl, ?_⟩) ?_ ?_
                 rotate_left
                 ·intro w'
                  go_simp
                  with_reducible rfl
                 rotate_left
                 ·simp only [Act.put, sQ0, sQ1, sQ2, i64_w]
                  rfl
                 refine take_ (i := 9) (N := some 51) (v := ?_) (a' := ?_) #[ff,tt,tt,tt,ff,tt,tt,tt,tt,tt,ff,ff,ff] rfl rfl (take_ofW HT_.out HW_.out (by kernel_rfl)) (fun _ _ _ h => h) (Or.inl ⟨by rfl, ?_⟩) hHeld ?_ ?_
                 rotate_left
                 ·rintro w' ⟨s0, s1, s2, s3, s4, s5⟩
                  go_simp
                  with_reducible rfl
                 rotate_left
                 ·simp only [Act.put, sQ0, sQ1, sQ2, i64_w]
                  rfl
                 refine join_ (σ := Value × Value × Value) 2 #[tt,tt,tt,tt,tt,tt,tt,tt,tt,tt,tt,ff,ff] (fun s_ => [(42, s_.1), (46, s_.2.1), (52, s_.2.2)]) (fun s_ w' => (w'.cell? ⟨gb176, 0, none⟩ = some (.int .i64 a0_0) ∧ w'.cell? ⟨gb176, 1, none⟩ = some (.slice (some ad180) l0_1.length c0_1) ∧ w'.cell? (ad180.add ((x4_1).toNat * 4)) = some (.int .i64 ((rd_T127 l0_1 x4_1).f0.f0)) ∧ w'.cell? ⟨(ad180.add ((x4_1).toNat * 4)).block, (ad180.add ((x4_1).toNat * 4)).off + 1, none⟩ = some (.int .i64 ((rd_T127 l0_1 x4_1).f0.f1)) ∧ w'.cell? ⟨(ad180.add ((x4_1).toNat * 4)).block, (ad180.add ((x4_1).toNat * 4)).off + 2, none⟩ = some (.int .i64 ((rd_T127 l0_1 x4_1).f1)) ∧ w'.cell? ⟨(ad180.add ((x4_1).toNat * 4)).block, (ad180.add ((x4_1).toNat * 4)).off + 3, none⟩ = some (.int .i64 ((rd_T127 l0_1 x4_1).f2))) ∧ (Kd.R k127 127 w' w.heap.size (fun k_ => some k_ ≠ (s_.2.2 : Value).ownBlock ∧ some k_ ≠ (.slice (some ad181) x3_1.length co26 : Value).ownBlock) s_.2.1 y191) ∧ (Kd.R k127 127 w' w.heap.size (fun k_ => some k_ ≠ (s_.2.1 : Value).ownBlock ∧ some k_ ≠ (.slice (some ad181) x3_1.length co26 : Value).ownBlock) s_.2.2 y195) ∧ (Kd.R k127 127 w' w.heap.size (fun k_ => some k_ ≠ (s_.2.1 : Value).ownBlock ∧ some k_ ≠ (s_.2.2 : Value).ownBlock) (.slice (some ad181) x3_1.length co26) x3_1) ∧ (w'.heap[gb176]? = some (.cells #[.int .i64 a0_0, .slice (some ad180) l0_1.length c0_1] 43 (0, 0))) ∧ (Below w.heap.size w w')) ?_ ?_
                 rotate_left
                 ·intro hCont
                  refine two_ (i := 0) (j := 10) (Ni := some 42) (Nj := some 52) #[tt,tt,tt,tt,ff,tt,tt,tt,tt,tt,ff,ff,ff] #[ff,tt,tt,tt,ff,tt,tt,tt,tt,tt,tt,ff,ff] rfl rfl rfl rfl (two_of HT_.out (by kernel_rfl)) (by decide) (by decide) (fun K hK => ?_) (fun K hK => ?_)
                  ·skip
                   refine Kd.R_lit_step k127 _ 127 ?hg (N := 42) ?hd (xs := ([] : List (S127))) (inner := []) (ok := fun _ => True) (okp := fun _ => True) ?hr ?hp (fun _ hk => hk) trivial (Below.refl _ _) (Nat.le_refl _) (by simp) ?_; (case hd => rfl); (case hg => rfl); (case hr => first | (go_simp; done) | (go_simp; rfl)); (case hp => exact (Reps.none _ _))
                   intro v185 w30 ho31 hb hg_ hnew_
                   clear hg_ hnew_
                   (first | rw [← Ny184.out] at ho31 | (simp only [Int.reduceToNat] at ho31; rw [← Ny184.out] at ho31))
                   have n0_ := Aside0.mk (Kd.R_elder' (by (with_reducible repeat (first | apply Kd.R_alloc | apply Kd.R_drewN | apply Kd.R_drew)); exact HO_3.out) (Kd.R_base ho31) hb)
                   have n1_ := Aside0.mk (Kd.R_lower (Kd.R_new' ho31 (Kd.R_lt (by (with_reducible repeat (first | apply Kd.R_alloc | apply Kd.R_drewN | apply Kd.R_drew)); exact HO_3.out))) (below_size (by repeat (first | (with_reducible first | exact HB.out | apply below_alloc | apply pw_below_drewN | apply below_drew1 | refine below_set ?_ GE176.out) | exact HB.out))))
                   have n2_ := Aside0.mk (blk_below (g := gb176) (o := .cells #[.int .i64 a0_0, .slice (some ad180) l0_1.length c0_1] 43 (0, 0)) (by (with_reducible repeat (first | refine blk_drewN ?_ _ | refine blk_drew ?_ | refine blk_alloc ?_ _)); exact BK176.out) hb)
                   have n3_ := Aside0.mk (Kd.C_below (by repeat (first | (with_reducible exact HR190.out) | (with_reducible refine Kd.C_alloc ?_ _) | (with_reducible refine Kd.C_drewN ?_ _) | (with_reducible refine Kd.C_drew ?_) | exact HR190.out)) hb)
                   have n4_ := Aside0.mk (below_step (by repeat (first | (with_reducible first | exact HB.out | apply below_alloc | apply pw_below_drewN | apply below_drew1 | refine below_set ?_ GE176.out) | exact HB.out)) hb)
                   clear HO_3
                   clear BK176
                   clear HR190
                   clear HB
                   have HO_3 := n0_
                   have HO186 := n1_
                   have BK176 := n2_
                   have HR190 := n3_
                   have HB := n4_
                   clear n0_ n1_ n2_ n3_ n4_
                   clear hb ho31
                   refine hK.out _ _ ⟨(blk_cell BK176.out 0).trans rfl, (blk_cell BK176.out 1).trans rfl, ((HB.out.cell (World.block_lt_of_cell? w _ hw194_0)).trans hw194_0), ((HB.out.cell (World.block_lt_of_cell? w _ hw194_1)).trans hw194_1), ((HB.out.cell (World.block_lt_of_cell? w _ hw194_2)).trans hw194_2), ((HB.out.cell (World.block_lt_of_cell? w _ hw194_3)).trans hw194_3)⟩ (fun hHeld => ?_)
                   clear hK K
                   refine norm_ (a' := ?_) ?_ ?_
                   rotate_left
                   ·show Act.put _ (some 42) _ = _
                    simp only [Act.put, sQ0, sQ1, sQ2, i64_w]
                    rfl
                   refine two_ (i := 4) (j := 10) (Ni := some 46) (Nj := some 52) #[tt,tt,tt,tt,tt,tt,tt,tt,tt,tt,ff,ff,ff] #[tt,tt,tt,tt,ff,tt,tt,tt,tt,tt,tt,ff,ff] rfl rfl rfl rfl (two_of HT_.out (by kernel_rfl)) (by decide) (by decide) (fun K hK => ?_) (fun K hK => ?_)
                   ·skip
                    refine Kd.R_append_rows_step k127 (w0 := w) w.heap.size (by rfl) (.tmp 42) (.tmp 45) 41 127 (.agg #[(.int .i64 0), (.int .i64 0), (.int .i64 0), (.int .i64 0)]) 32 rfl Try.underlying41 info127 rfl (by decide) (by omega) v185 y184 y187 _ _ _ (fun k_ => some k_ ≠ (.slice (some ad181) x3_1.length co26 : Value).ownBlock) (fun _ => False) rfl rfl ?aO ?aR (fun _ _ h => h) (fun _ h => h.elim) ?aF ?aB ?aS ?aL ?_
                    (case aR => repeat (first | exact (by repeat (first | (with_reducible exact HR190.out) | (with_reducible refine Kd.C_alloc ?_ _) | (with_reducible refine Kd.C_drewN ?_ _) | (with_reducible refine Kd.C_drew ?_) | exact HR190.out)) | (with_reducible refine Kd.C_alloc ?_ _) | (with_reducible refine Kd.C_drewN ?_ _) | (with_reducible refine Kd.C_drew ?_)))
                    (case aB => exact (by repeat (first | (with_reducible first | exact HB.out | apply below_alloc | apply pw_below_drewN | apply below_drew1 | refine below_set ?_ GE176.out) | exact HB.out)))
                    (case aF => exact (fun k_ hk => Kd.fresh' (Kd.R_lt (by (with_reducible repeat (first | apply Kd.R_alloc | apply Kd.R_drewN | apply Kd.R_drew)); exact HO_3.out)) k_ hk))
                    (case aO => exact (by (with_reducible repeat (first | apply Kd.R_alloc | apply Kd.R_drewN | apply Kd.R_drew)); exact Kd.R_mono HO186.out (fun _ hk => hk.2)))
                    (case aS => exact (below_size (by repeat (first | (with_reducible first | exact HB.out | apply below_alloc | apply pw_below_drewN | apply below_drew1 | refine below_set ?_ GE176.out) | exact HB.out))))
                    (case aL => have := LMc20.out; omega)
                    intro v192 w32 ho hb hg hat
                    rw [← Ny191.out] at ho
                    have n0_ := Aside0.mk (Kd.R_after (ok := (fun _ => True)) (by (with_reducible repeat (first | apply Kd.R_alloc | apply Kd.R_drewN | apply Kd.R_drew)); exact HO_3.out) hg hat)
                    have n1_ := Aside0.mk (blk_grown (g := gb176) (o := .cells #[.int .i64 a0_0, .slice (some ad180) l0_1.length c0_1] 43 (0, 0)) (by (with_reducible repeat (first | refine blk_drewN ?_ _ | refine blk_drew ?_ | refine blk_alloc ?_ _)); exact BK176.out) hg (Kd.R_ne HO186.out BK176.out (by decide)))
                    have n2_ := Aside0.mk (hb)
                    have n3_ := Aside0.mk ((show Kd.C k127 w32 (some ad181) y187.length y187 from by rw [Ny187.out]; exact Kd.C_take (m := (x5_2 : Int).toNat) ((Kd.R_reads' (Kd.R_after (ok := (fun _ => True)) (by (with_reducible repeat (first | apply Kd.R_alloc | apply Kd.R_drewN | apply Kd.R_drew)); exact HO_3.out) hg hat)).2.2) KL29.out))
                    have n4_ := Aside0.mk (ho)
                    clear HO_3
                    clear BK176
                    clear HB
                    clear HR190
                    clear HO186
                    have HO_3 := n0_
                    have BK176 := n1_
                    have HB := n2_
                    have HR190 := n3_
                    have HO193 := n4_
                    clear n0_ n1_ n2_ n3_ n4_
                    clear ho hb hg hat
                    refine hK.out _ _ ⟨(blk_cell BK176.out 0).trans rfl, (blk_cell BK176.out 1).trans rfl, ((HB.out.cell (World.block_lt_of_cell? w _ hw194_0)).trans hw194_0), ((HB.out.cell (World.block_lt_of_cell? w _ hw194_1)).trans hw194_1), ((HB.out.cell (World.block_lt_of_cell? w _ hw194_2)).trans hw194_2), ((HB.out.cell (World.block_lt_of_cell? w _ hw194_3)).trans hw194_3)⟩ (fun hHeld => ?_)
                    clear hK K
                    refine norm_ (a' := ?_) ?_ ?_
                    rotate_left
                    ·show Act.put _ (some 46) _ = _
                     simp only [Act.put, sQ0, sQ1, sQ2, i64_w]
                     rfl
                    refine one_ (i := 10) (N := some 52) #[tt,tt,tt,tt,tt,tt,tt,tt,tt,tt,tt,ff,ff] rfl rfl (one_of HT_.out (by kernel_rfl)) (by decide) (fun K hK => ?_)
                    refine Kd.R_lit_step k127 _ 127 ?hg (N := 52) ?hd (xs := ([(⟨(⟨(rd_T127 l0_1 x4_1).f0.f0, (rd_T127 l0_1 x4_1).f0.f1⟩ : S36), (rd_T127 l0_1 x4_1).f1, (rd_T127 l0_1 x4_1).f2⟩ : S127)] : List (S127))) (inner := [.int .i64 ((rd_T127 l0_1 x4_1).f0.f0), .int .i64 ((rd_T127 l0_1 x4_1).f0.f1), .int .i64 ((rd_T127 l0_1 x4_1).f1), .int .i64 ((rd_T127 l0_1 x4_1).f2)]) (ok := fun _ => True) (okp := fun _ => True) ?hr ?hp (fun _ hk => hk) trivial (Below.refl _ _) (Nat.le_refl _) (by simp) ?_; (case hd => rfl); (case hg => rfl); (case hr => first | (go_simp; done) | (go_simp; rfl)); (case hp => exact (Reps.c4 (show Kd.M k127 _ _ _ (⟨(⟨(rd_T127 l0_1 x4_1).f0.f0, (rd_T127 l0_1 x4_1).f0.f1⟩ : S36), (rd_T127 l0_1 x4_1).f1, (rd_T127 l0_1 x4_1).f2⟩ : S127) [.int .i64 ((rd_T127 l0_1 x4_1).f0.f0), .int .i64 ((rd_T127 l0_1 x4_1).f0.f1), .int .i64 ((rd_T127 l0_1 x4_1).f1), .int .i64 ((rd_T127 l0_1 x4_1).f2)] from (k127_mkM _ _ _ (⟨(⟨(rd_T127 l0_1 x4_1).f0.f0, (rd_T127 l0_1 x4_1).f0.f1⟩ : S36), (rd_T127 l0_1 x4_1).f1, (rd_T127 l0_1 x4_1).f2⟩ : S127) )) (Reps.none _ _)))
                    intro v196 w33 ho34 hb hg_ hnew_
                    clear hg_ hnew_
                    (first | rw [← Ny195.out] at ho34 | (simp only [Int.reduceToNat] at ho34; rw [← Ny195.out] at ho34))
                    have n0_ := Aside0.mk (Kd.R_elder' (by (with_reducible repeat (first | apply Kd.R_alloc | apply Kd.R_drewN | apply Kd.R_drew)); exact HO_3.out) (Kd.R_base ho34) hb)
                    have n1_ := Aside0.mk (Kd.R_elder' (by (with_reducible repeat (first | apply Kd.R_alloc | apply Kd.R_drewN | apply Kd.R_drew)); exact HO193.out) (Kd.R_base ho34) hb)
                    have n2_ := Aside0.mk (Kd.R_lower (Kd.R_new' (Kd.R_new' ho34 (Kd.R_lt (by (with_reducible repeat (first | apply Kd.R_alloc | apply Kd.R_drewN | apply Kd.R_drew)); exact HO_3.out))) (Kd.R_lt (by (with_reducible repeat (first | apply Kd.R_alloc | apply Kd.R_drewN | apply Kd.R_drew)); exact HO193.out))) (below_size (by repeat (first | (with_reducible first | exact HB.out | apply below_alloc | apply pw_below_drewN | apply below_drew1 | refine below_set ?_ GE176.out) | exact HB.out))))
                    have n3_ := Aside0.mk (blk_below (g := gb176) (o := .cells #[.int .i64 a0_0, .slice (some ad180) l0_1.length c0_1] 43 (0, 0)) (by (with_reducible repeat (first | refine blk_drewN ?_ _ | refine blk_drew ?_ | refine blk_alloc ?_ _)); exact BK176.out) hb)
                    have n4_ := Aside0.mk (Kd.C_below (by repeat (first | (with_reducible exact HR190.out) | (with_reducible refine Kd.C_alloc ?_ _) | (with_reducible refine Kd.C_drewN ?_ _) | (with_reducible refine Kd.C_drew ?_) | exact HR190.out)) hb)
                    have n5_ := Aside0.mk (below_step (by repeat (first | (with_reducible first | exact HB.out | apply below_alloc | apply pw_below_drewN | apply below_drew1 | refine below_set ?_ GE176.out) | exact HB.out)) hb)
                    clear HO_3
                    clear HO193
                    clear BK176
                    clear HR190
                    clear HB
                    have HO_3 := n0_
                    have HO193 := n1_
                    have HO197 := n2_
                    have BK176 := n3_
                    have HR190 := n4_
                    have HB := n5_
                    clear n0_ n1_ n2_ n3_ n4_ n5_
                    clear hb ho34
                    refine hK.out _ _ ⟨(blk_cell BK176.out 0).trans rfl, (blk_cell BK176.out 1).trans rfl, ((HB.out.cell (World.block_lt_of_cell? w _ hw194_0)).trans hw194_0), ((HB.out.cell (World.block_lt_of_cell? w _ hw194_1)).trans hw194_1), ((HB.out.cell (World.block_lt_of_cell? w _ hw194_2)).trans hw194_2), ((HB.out.cell (World.block_lt_of_cell? w _ hw194_3)).trans hw194_3)⟩ (fun hHeld => ?_)
                    clear hK K
                    refine norm_ (a' := ?_) ?_ ?_
                    rotate_left
                    ·show Act.put _ (some 52) _ = _
                     simp only [Act.put, sQ0, sQ1, sQ2, i64_w]
                     rfl
                    exact norm_ (by simp only [putAll, Act.put, sQ0, sQ1, sQ2]) (hCont (v185, v192, v196) _ ⟨hHeld, (by (with_reducible repeat (first | apply Kd.R_alloc | apply Kd.R_drewN | apply Kd.R_drew)); exact Kd.R_mono HO193.out (fun _ hk => ⟨hk.2, hk.1⟩)), (by (with_reducible repeat (first | apply Kd.R_alloc | apply Kd.R_drewN | apply Kd.R_drew)); exact Kd.R_mono HO197.out (fun _ hk => ⟨hk.2, hk.1.2⟩)), (by (with_reducible repeat (first | apply Kd.R_alloc | apply Kd.R_drewN | apply Kd.R_drew)); exact Kd.R_mono HO_3.out (fun _ hk => ⟨hk.1.2, hk.2⟩)), (by (with_reducible repeat (first | refine blk_drewN ?_ _ | refine blk_drew ?_ | refine blk_alloc ?_ _)); exact BK176.out), (by repeat (first | (with_reducible first | exact HB.out | apply below_alloc | apply pw_below_drewN | apply below_drew1 | refine below_set ?_ GE176.out) | exact HB.out))⟩)
                   ·skip
                    refine Kd.R_lit_step k127 _ 127 ?hg (N := 52) ?hd (xs := ([(⟨(⟨(rd_T127 l0_1 x4_1).f0.f0, (rd_T127 l0_1 x4_1).f0.f1⟩ : S36), (rd_T127 l0_1 x4_1).f1, (rd_T127 l0_1 x4_1).f2⟩ : S127)] : List (S127))) (inner := [.int .i64 ((rd_T127 l0_1 x4_1).f0.f0), .int .i64 ((rd_T127 l0_1 x4_1).f0.f1), .int .i64 ((rd_T127 l0_1 x4_1).f1), .int .i64 ((rd_T127 l0_1 x4_1).f2)]) (ok := fun _ => True) (okp := fun _ => True) ?hr ?hp (fun _ hk => hk) trivial (Below.refl _ _) (Nat.le_refl _) (by simp) ?_; (case hd => rfl); (case hg => rfl); (case hr => first | (go_simp; done) | (go_simp; rfl)); (case hp => exact (Reps.c4 (show Kd.M k127 _ _ _ (⟨(⟨(rd_T127 l0_1 x4_1).f0.f0, (rd_T127 l0_1 x4_1).f0.f1⟩ : S36), (rd_T127 l0_1 x4_1).f1, (rd_T127 l0_1 x4_1).f2⟩ : S127) [.int .i64 ((rd_T127 l0_1 x4_1).f0.f0), .int .i64 ((rd_T127 l0_1 x4_1).f0.f1), .int .i64 ((rd_T127 l0_1 x4_1).f1), .int .i64 ((rd_T127 l0_1 x4_1).f2)] from (k127_mkM _ _ _ (⟨(⟨(rd_T127 l0_1 x4_1).f0.f0, (rd_T127 l0_1 x4_1).f0.f1⟩ : S36), (rd_T127 l0_1 x4_1).f1, (rd_T127 l0_1 x4_1).f2⟩ : S127) )) (Reps.none _ _)))
                    intro v196 w32 ho33 hb hg_ hnew_
                    clear hg_ hnew_
                    (first | rw [← Ny195.out] at ho33 | (simp only [Int.reduceToNat] at ho33; rw [← Ny195.out] at ho33))
                    have n0_ := Aside0.mk (Kd.R_elder' (by (with_reducible repeat (first | apply Kd.R_alloc | apply Kd.R_drewN | apply Kd.R_drew)); exact HO_3.out) (Kd.R_base ho33) hb)
                    have n1_ := Aside0.mk (Kd.R_elder' (by (with_reducible repeat (first | apply Kd.R_alloc | apply Kd.R_drewN | apply Kd.R_drew)); exact HO186.out) (Kd.R_base ho33) hb)
                    have n2_ := Aside0.mk (Kd.R_lower (Kd.R_new' (Kd.R_new' ho33 (Kd.R_lt (by (with_reducible repeat (first | apply Kd.R_alloc | apply Kd.R_drewN | apply Kd.R_drew)); exact HO_3.out))) (Kd.R_lt (by (with_reducible repeat (first | apply Kd.R_alloc | apply Kd.R_drewN | apply Kd.R_drew)); exact HO186.out))) (below_size (by repeat (first | (with_reducible first | exact HB.out | apply below_alloc | apply pw_below_drewN | apply below_drew1 | refine below_set ?_ GE176.out) | exact HB.out))))
                    have n3_ := Aside0.mk (blk_below (g := gb176) (o := .cells #[.int .i64 a0_0, .slice (some ad180) l0_1.length c0_1] 43 (0, 0)) (by (with_reducible repeat (first | refine blk_drewN ?_ _ | refine blk_drew ?_ | refine blk_alloc ?_ _)); exact BK176.out) hb)
                    have n4_ := Aside0.mk (Kd.C_below (by repeat (first | (with_reducible exact HR190.out) | (with_reducible refine Kd.C_alloc ?_ _) | (with_reducible refine Kd.C_drewN ?_ _) | (with_reducible refine Kd.C_drew ?_) | exact HR190.out)) hb)
                    have n5_ := Aside0.mk (below_step (by repeat (first | (with_reducible first | exact HB.out | apply below_alloc | apply pw_below_drewN | apply below_drew1 | refine below_set ?_ GE176.out) | exact HB.out)) hb)
                    clear HO_3
                    clear HO186
                    clear BK176
                    clear HR190
                    clear HB
                    have HO_3 := n0_
                    have HO186 := n1_
                    have HO197 := n2_
                    have BK176 := n3_
                    have HR190 := n4_
                    have HB := n5_
                    clear n0_ n1_ n2_ n3_ n4_ n5_
                    clear hb ho33
                    refine hK.out _ _ ⟨(blk_cell BK176.out 0).trans rfl, (blk_cell BK176.out 1).trans rfl, ((HB.out.cell (World.block_lt_of_cell? w _ hw194_0)).trans hw194_0), ((HB.out.cell (World.block_lt_of_cell? w _ hw194_1)).trans hw194_1), ((HB.out.cell (World.block_lt_of_cell? w _ hw194_2)).trans hw194_2), ((HB.out.cell (World.block_lt_of_cell? w _ hw194_3)).trans hw194_3)⟩ (fun hHeld => ?_)
                    clear hK K
                    refine norm_ (a' := ?_) ?_ ?_
                    rotate_left
                    ·show Act.put _ (some 52) _ = _
                     simp only [Act.put, sQ0, sQ1, sQ2, i64_w]
                     rfl
                    refine one_ (i := 4) (N := some 46) #[tt,tt,tt,tt,tt,tt,tt,tt,tt,tt,tt,ff,ff] rfl rfl (one_of HT_.out (by kernel_rfl)) (by decide) (fun K hK => ?_)
                    refine Kd.R_append_rows_step k127 (w0 := w) w.heap.size (by rfl) (.tmp 42) (.tmp 45) 41 127 (.agg #[(.int .i64 0), (.int .i64 0), (.int .i64 0), (.int .i64 0)]) 32 rfl Try.underlying41 info127 rfl (by decide) (by omega) v185 y184 y187 _ _ _ (fun k_ => some k_ ≠ (.slice (some ad181) x3_1.length co26 : Value).ownBlock ∧ some k_ ≠ (v196 : Value).ownBlock) (fun _ => False) rfl rfl ?aO ?aR (fun _ _ h => h) (fun _ h => h.elim) ?aF ?aB ?aS ?aL ?_
                    (case aR => repeat (first | exact (by repeat (first | (with_reducible exact HR190.out) | (with_reducible refine Kd.C_alloc ?_ _) | (with_reducible refine Kd.C_drewN ?_ _) | (with_reducible refine Kd.C_drew ?_) | exact HR190.out)) | (with_reducible refine Kd.C_alloc ?_ _) | (with_reducible refine Kd.C_drewN ?_ _) | (with_reducible refine Kd.C_drew ?_)))
                    (case aB => exact (by repeat (first | (with_reducible first | exact HB.out | apply below_alloc | apply pw_below_drewN | apply below_drew1 | refine below_set ?_ GE176.out) | exact HB.out)))
                    (case aF => exact (fun k_ hk => ⟨Kd.fresh' (Kd.R_lt (by (with_reducible repeat (first | apply Kd.R_alloc | apply Kd.R_drewN | apply Kd.R_drew)); exact HO_3.out)) k_ hk, Kd.fresh' (Kd.R_lt (by (with_reducible repeat (first | apply Kd.R_alloc | apply Kd.R_drewN | apply Kd.R_drew)); exact HO197.out)) k_ hk⟩))
                    (case aO => exact (by (with_reducible repeat (first | apply Kd.R_alloc | apply Kd.R_drewN | apply Kd.R_drew)); exact Kd.R_mono HO186.out (fun _ hk => ⟨hk.1.2, hk.2⟩)))
                    (case aS => exact (below_size (by repeat (first | (with_reducible first | exact HB.out | apply below_alloc | apply pw_below_drewN | apply below_drew1 | refine below_set ?_ GE176.out) | exact HB.out))))
                    (case aL => have := LMc20.out; omega)
                    intro v192 w34 ho hb hg hat
                    rw [← Ny191.out] at ho
                    have n0_ := Aside0.mk (Kd.R_after (ok := (fun k_ => some k_ ≠ (v196 : Value).ownBlock)) (by (with_reducible repeat (first | apply Kd.R_alloc | apply Kd.R_drewN | apply Kd.R_drew)); exact Kd.R_mono HO_3.out (fun _ hk => ⟨hk.2, hk.1.2⟩)) hg hat)
                    have n1_ := Aside0.mk (blk_grown (g := gb176) (o := .cells #[.int .i64 a0_0, .slice (some ad180) l0_1.length c0_1] 43 (0, 0)) (by (with_reducible repeat (first | refine blk_drewN ?_ _ | refine blk_drew ?_ | refine blk_alloc ?_ _)); exact BK176.out) hg (Kd.R_ne HO186.out BK176.out (by decide)))
                    have n2_ := Aside0.mk (Kd.R_after (ok := (fun k_ => some k_ ≠ (.slice (some ad181) x3_1.length co26 : Value).ownBlock)) (by (with_reducible repeat (first | apply Kd.R_alloc | apply Kd.R_drewN | apply Kd.R_drew)); exact Kd.R_mono HO197.out (fun _ hk => ⟨hk.1.2, hk.2⟩)) hg hat)
                    have n3_ := Aside0.mk (hb)
                    have n4_ := Aside0.mk ((show Kd.C k127 w34 (some ad181) y187.length y187 from by rw [Ny187.out]; exact Kd.C_take (m := (x5_2 : Int).toNat) ((Kd.R_reads' (Kd.R_after (ok := (fun k_ => some k_ ≠ (v196 : Value).ownBlock)) (by (with_reducible repeat (first | apply Kd.R_alloc | apply Kd.R_drewN | apply Kd.R_drew)); exact Kd.R_mono HO_3.out (fun _ hk => ⟨hk.2, hk.1.2⟩)) hg hat)).2.2) KL29.out))
                    have n5_ := Aside0.mk (ho)
                    clear HO_3
                    clear BK176
                    clear HO197
                    clear HB
                    clear HR190
                    clear HO186
                    have HO_3 := n0_
                    have BK176 := n1_
                    have HO197 := n2_
                    have HB := n3_
                    have HR190 := n4_
                    have HO193 := n5_
                    clear n0_ n1_ n2_ n3_ n4_ n5_
                    clear ho hb hg hat
                    refine hK.out _ _ ⟨(blk_cell BK176.out 0).trans rfl, (blk_cell BK176.out 1).trans rfl, ((HB.out.cell (World.block_lt_of_cell? w _ hw194_0)).trans hw194_0), ((HB.out.cell (World.block_lt_of_cell? w _ hw194_1)).trans hw194_1), ((HB.out.cell (World.block_lt_of_cell? w _ hw194_2)).trans hw194_2), ((HB.out.cell (World.block_lt_of_cell? w _ hw194_3)).trans hw194_3)⟩ (fun hHeld => ?_)
                    clear hK K
                    refine norm_ (a' := ?_) ?_ ?_
                    rotate_left
                    ·show Act.put _ (some 46) _ = _
                     simp only [Act.put, sQ0, sQ1, sQ2, i64_w]
                     rfl
                    exact norm_ (by simp only [putAll, Act.put, sQ0, sQ1, sQ2]) (hCont (v185, v192, v196) _ ⟨hHeld, (by (with_reducible repeat (first | apply Kd.R_alloc | apply Kd.R_drewN | apply Kd.R_drew)); exact Kd.R_mono HO193.out (fun _ hk => ⟨hk.2, hk.1⟩)), (by (with_reducible repeat (first | apply Kd.R_alloc | apply Kd.R_drewN | apply Kd.R_drew)); exact Kd.R_mono HO197.out (fun _ hk => ⟨hk.2, hk.1⟩)), (by (with_reducible repeat (first | apply Kd.R_alloc | apply Kd.R_drewN | apply Kd.R_drew)); exact Kd.R_mono HO_3.out (fun _ hk => ⟨hk.2, hk.1⟩)), (by (with_reducible repeat (first | refine blk_drewN ?_ _ | refine blk_drew ?_ | refine blk_alloc ?_ _)); exact BK176.out), (by repeat (first | (with_reducible first | exact HB.out | apply below_alloc | apply pw_below_drewN | apply below_drew1 | refine below_set ?_ GE176.out) | exact HB.out))⟩)
                  ·skip
                   refine Kd.R_lit_step k127 _ 127 ?hg (N := 52) ?hd (xs := ([(⟨(⟨(rd_T127 l0_1 x4_1).f0.f0, (rd_T127 l0_1 x4_1).f0.f1⟩ : S36), (rd_T127 l0_1 x4_1).f1, (rd_T127 l0_1 x4_1).f2⟩ : S127)] : List (S127))) (inner := [.int .i64 ((rd_T127 l0_1 x4_1).f0.f0), .int .i64 ((rd_T127 l0_1 x4_1).f0.f1), .int .i64 ((rd_T127 l0_1 x4_1).f1), .int .i64 ((rd_T127 l0_1 x4_1).f2)]) (ok := fun _ => True) (okp := fun _ => True) ?hr ?hp (fun _ hk => hk) trivial (Below.refl _ _) (Nat.le_refl _) (by simp) ?_; (case hd => rfl); (case hg => rfl); (case hr => first | (go_simp; done) | (go_simp; rfl)); (case hp => exact (Reps.c4 (show Kd.M k127 _ _ _ (⟨(⟨(rd_T127 l0_1 x4_1).f0.f0, (rd_T127 l0_1 x4_1).f0.f1⟩ : S36), (rd_T127 l0_1 x4_1).f1, (rd_T127 l0_1 x4_1).f2⟩ : S127) [.int .i64 ((rd_T127 l0_1 x4_1).f0.f0), .int .i64 ((rd_T127 l0_1 x4_1).f0.f1), .int .i64 ((rd_T127 l0_1 x4_1).f1), .int .i64 ((rd_T127 l0_1 x4_1).f2)] from (k127_mkM _ _ _ (⟨(⟨(rd_T127 l0_1 x4_1).f0.f0, (rd_T127 l0_1 x4_1).f0.f1⟩ : S36), (rd_T127 l0_1 x4_1).f1, (rd_T127 l0_1 x4_1).f2⟩ : S127) )) (Reps.none _ _)))
                   intro v196 w30 ho31 hb hg_ hnew_
                   clear hg_ hnew_
                   (first | rw [← Ny195.out] at ho31 | (simp only [Int.reduceToNat] at ho31; rw [← Ny195.out] at ho31))
                   have n0_ := Aside0.mk (Kd.R_elder' (by (with_reducible repeat (first | apply Kd.R_alloc | apply Kd.R_drewN | apply Kd.R_drew)); exact HO_3.out) (Kd.R_base ho31) hb)
                   have n1_ := Aside0.mk (Kd.R_lower (Kd.R_new' ho31 (Kd.R_lt (by (with_reducible repeat (first | apply Kd.R_alloc | apply Kd.R_drewN | apply Kd.R_drew)); exact HO_3.out))) (below_size (by repeat (first | (with_reducible first | exact HB.out | apply below_alloc | apply pw_below_drewN | apply below_drew1 | refine below_set ?_ GE176.out) | exact HB.out))))
                   have n2_ := Aside0.mk (blk_below (g := gb176) (o := .cells #[.int .i64 a0_0, .slice (some ad180) l0_1.length c0_1] 43 (0, 0)) (by (with_reducible repeat (first | refine blk_drewN ?_ _ | refine blk_drew ?_ | refine blk_alloc ?_ _)); exact BK176.out) hb)
                   have n3_ := Aside0.mk (Kd.C_below (by repeat (first | (with_reducible exact HR190.out) | (with_reducible refine Kd.C_alloc ?_ _) | (with_reducible refine Kd.C_drewN ?_ _) | (with_reducible refine Kd.C_drew ?_) | exact HR190.out)) hb)
                   have n4_ := Aside0.mk (below_step (by repeat (first | (with_reducible first | exact HB.out | apply below_alloc | apply pw_below_drewN | apply below_drew1 | refine below_set ?_ GE176.out) | exact HB.out)) hb)
                   clear HO_3
                   clear BK176
                   clear HR190
                   clear HB
                   have HO_3 := n0_
                   have HO197 := n1_
                   have BK176 := n2_
                   have HR190 := n3_
                   have HB := n4_
                   clear n0_ n1_ n2_ n3_ n4_
                   clear hb ho31
                   refine hK.out _ _ ⟨(blk_cell BK176.out 0).trans rfl, (blk_cell BK176.out 1).trans rfl, ((HB.out.cell (World.block_lt_of_cell? w _ hw194_0)).trans hw194_0), ((HB.out.cell (World.block_lt_of_cell? w _ hw194_1)).trans hw194_1), ((HB.out.cell (World.block_lt_of_cell? w _ hw194_2)).trans hw194_2), ((HB.out.cell (World.block_lt_of_cell? w _ hw194_3)).trans hw194_3)⟩ (fun hHeld => ?_)
                   clear hK K
                   refine norm_ (a' := ?_) ?_ ?_
                   rotate_left
                   ·show Act.put _ (some 52) _ = _
                    simp only [Act.put, sQ0, sQ1, sQ2, i64_w]
                    rfl
                   refine one_ (i := 0) (N := some 42) #[tt,tt,tt,tt,ff,tt,tt,tt,tt,tt,tt,ff,ff] rfl rfl (one_of HT_.out (by kernel_rfl)) (by decide) (fun K hK => ?_)
                   refine Kd.R_lit_step k127 _ 127 ?hg (N := 42) ?hd (xs := ([] : List (S127))) (inner := []) (ok := fun _ => True) (okp := fun _ => True) ?hr ?hp (fun _ hk => hk) trivial (Below.refl _ _) (Nat.le_refl _) (by simp) ?_; (case hd => rfl); (case hg => rfl); (case hr => first | (go_simp; done) | (go_simp; rfl)); (case hp => exact (Reps.none _ _))
                   intro v185 w32 ho33 hb hg_ hnew_
                   clear hg_ hnew_
                   (first | rw [← Ny184.out] at ho33 | (simp only [Int.reduceToNat] at ho33; rw [← Ny184.out] at ho33))
                   have n0_ := Aside0.mk (Kd.R_elder' (by (with_reducible repeat (first | apply Kd.R_alloc | apply Kd.R_drewN | apply Kd.R_drew)); exact HO_3.out) (Kd.R_base ho33) hb)
                   have n1_ := Aside0.mk (Kd.R_elder' (by (with_reducible repeat (first | apply Kd.R_alloc | apply Kd.R_drewN | apply Kd.R_drew)); exact HO197.out) (Kd.R_base ho33) hb)
                   have n2_ := Aside0.mk (Kd.R_lower (Kd.R_new' (Kd.R_new' ho33 (Kd.R_lt (by (with_reducible repeat (first | apply Kd.R_alloc | apply Kd.R_drewN | apply Kd.R_drew)); exact HO_3.out))) (Kd.R_lt (by (with_reducible repeat (first | apply Kd.R_alloc | apply Kd.R_drewN | apply Kd.R_drew)); exact HO197.out))) (below_size (by repeat (first | (with_reducible first | exact HB.out | apply below_alloc | apply pw_below_drewN | apply below_drew1 | refine below_set ?_ GE176.out) | exact HB.out))))
                   have n3_ := Aside0.mk (blk_below (g := gb176) (o := .cells #[.int .i64 a0_0, .slice (some ad180) l0_1.length c0_1] 43 (0, 0)) (by (with_reducible repeat (first | refine blk_drewN ?_ _ | refine blk_drew ?_ | refine blk_alloc ?_ _)); exact BK176.out) hb)
                   have n4_ := Aside0.mk (Kd.C_below (by repeat (first | (with_reducible exact HR190.out) | (with_reducible refine Kd.C_alloc ?_ _) | (with_reducible refine Kd.C_drewN ?_ _) | (with_reducible refine Kd.C_drew ?_) | exact HR190.out)) hb)
                   have n5_ := Aside0.mk (below_step (by repeat (first | (with_reducible first | exact HB.out | apply below_alloc | apply pw_below_drewN | apply below_drew1 | refine below_set ?_ GE176.out) | exact HB.out)) hb)
                   clear HO_3
                   clear HO197
                   clear BK176
                   clear HR190
                   clear HB
                   have HO_3 := n0_
                   have HO197 := n1_
                   have HO186 := n2_
                   have BK176 := n3_
                   have HR190 := n4_
                   have HB := n5_
                   clear n0_ n1_ n2_ n3_ n4_ n5_
                   clear hb ho33
                   refine hK.out _ _ ⟨(blk_cell BK176.out 0).trans rfl, (blk_cell BK176.out 1).trans rfl, ((HB.out.cell (World.block_lt_of_cell? w _ hw194_0)).trans hw194_0), ((HB.out.cell (World.block_lt_of_cell? w _ hw194_1)).trans hw194_1), ((HB.out.cell (World.block_lt_of_cell? w _ hw194_2)).trans hw194_2), ((HB.out.cell (World.block_lt_of_cell? w _ hw194_3)).trans hw194_3)⟩ (fun hHeld => ?_)
                   clear hK K
                   refine norm_ (a' := ?_) ?_ ?_
                   rotate_left
                   ·show Act.put _ (some 42) _ = _
                    simp only [Act.put, sQ0, sQ1, sQ2, i64_w]
                    rfl
                   refine one_ (i := 4) (N := some 46) #[tt,tt,tt,tt,tt,tt,tt,tt,tt,tt,tt,ff,ff] rfl rfl (one_of HT_.out (by kernel_rfl)) (by decide) (fun K hK => ?_)
                   refine Kd.R_append_rows_step k127 (w0 := w) w.heap.size (by rfl) (.tmp 42) (.tmp 45) 41 127 (.agg #[(.int .i64 0), (.int .i64 0), (.int .i64 0), (.int .i64 0)]) 32 rfl Try.underlying41 info127 rfl (by decide) (by omega) v185 y184 y187 _ _ _ (fun k_ => some k_ ≠ (.slice (some ad181) x3_1.length co26 : Value).ownBlock ∧ some k_ ≠ (v196 : Value).ownBlock) (fun _ => False) rfl rfl ?aO ?aR (fun _ _ h => h) (fun _ h => h.elim) ?aF ?aB ?aS ?aL ?_
                   (case aR => repeat (first | exact (by repeat (first | (with_reducible exact HR190.out) | (with_reducible refine Kd.C_alloc ?_ _) | (with_reducible refine Kd.C_drewN ?_ _) | (with_reducible refine Kd.C_drew ?_) | exact HR190.out)) | (with_reducible refine Kd.C_alloc ?_ _) | (with_reducible refine Kd.C_drewN ?_ _) | (with_reducible refine Kd.C_drew ?_)))
                   (case aB => exact (by repeat (first | (with_reducible first | exact HB.out | apply below_alloc | apply pw_below_drewN | apply below_drew1 | refine below_set ?_ GE176.out) | exact HB.out)))
                   (case aF => exact (fun k_ hk => ⟨Kd.fresh' (Kd.R_lt (by (with_reducible repeat (first | apply Kd.R_alloc | apply Kd.R_drewN | apply Kd.R_drew)); exact HO_3.out)) k_ hk, Kd.fresh' (Kd.R_lt (by (with_reducible repeat (first | apply Kd.R_alloc | apply Kd.R_drewN | apply Kd.R_drew)); exact HO197.out)) k_ hk⟩))
                   (case aO => exact (by (with_reducible repeat (first | apply Kd.R_alloc | apply Kd.R_drewN | apply Kd.R_drew)); exact Kd.R_mono HO186.out (fun _ hk => ⟨hk.1.2, hk.2⟩)))
                   (case aS => exact (below_size (by repeat (first | (with_reducible first | exact HB.out | apply below_alloc | apply pw_below_drewN | apply below_drew1 | refine below_set ?_ GE176.out) | exact HB.out))))
                   (case aL => have := LMc20.out; omega)
                   intro v192 w34 ho hb hg hat
                   rw [← Ny191.out] at ho
                   have n0_ := Aside0.mk (Kd.R_after (ok := (fun k_ => some k_ ≠ (v196 : Value).ownBlock)) (by (with_reducible repeat (first | apply Kd.R_alloc | apply Kd.R_drewN | apply Kd.R_drew)); exact Kd.R_mono HO_3.out (fun _ hk => ⟨hk.1.2, hk.2⟩)) hg hat)
                   have n1_ := Aside0.mk (blk_grown (g := gb176) (o := .cells #[.int .i64 a0_0, .slice (some ad180) l0_1.length c0_1] 43 (0, 0)) (by (with_reducible repeat (first | refine blk_drewN ?_ _ | refine blk_drew ?_ | refine blk_alloc ?_ _)); exact BK176.out) hg (Kd.R_ne HO186.out BK176.out (by decide)))
                   have n2_ := Aside0.mk (Kd.R_after (ok := (fun k_ => some k_ ≠ (.slice (some ad181) x3_1.length co26 : Value).ownBlock)) (by (with_reducible repeat (first | apply Kd.R_alloc | apply Kd.R_drewN | apply Kd.R_drew)); exact Kd.R_mono HO197.out (fun _ hk => ⟨hk.1.2, hk.2⟩)) hg hat)
                   have n3_ := Aside0.mk (hb)
                   have n4_ := Aside0.mk ((show Kd.C k127 w34 (some ad181) y187.length y187 from by rw [Ny187.out]; exact Kd.C_take (m := (x5_2 : Int).toNat) ((Kd.R_reads' (Kd.R_after (ok := (fun k_ => some k_ ≠ (v196 : Value).ownBlock)) (by (with_reducible repeat (first | apply Kd.R_alloc | apply Kd.R_drewN | apply Kd.R_drew)); exact Kd.R_mono HO_3.out (fun _ hk => ⟨hk.1.2, hk.2⟩)) hg hat)).2.2) KL29.out))
                   have n5_ := Aside0.mk (ho)
                   clear HO_3
                   clear BK176
                   clear HO197
                   clear HB
                   clear HR190
                   clear HO186
                   have HO_3 := n0_
                   have BK176 := n1_
                   have HO197 := n2_
                   have HB := n3_
                   have HR190 := n4_
                   have HO193 := n5_
                   clear n0_ n1_ n2_ n3_ n4_ n5_
                   clear ho hb hg hat
                   refine hK.out _ _ ⟨(blk_cell BK176.out 0).trans rfl, (blk_cell BK176.out 1).trans rfl, ((HB.out.cell (World.block_lt_of_cell? w _ hw194_0)).trans hw194_0), ((HB.out.cell (World.block_lt_of_cell? w _ hw194_1)).trans hw194_1), ((HB.out.cell (World.block_lt_of_cell? w _ hw194_2)).trans hw194_2), ((HB.out.cell (World.block_lt_of_cell? w _ hw194_3)).trans hw194_3)⟩ (fun hHeld => ?_)
                   clear hK K
                   refine norm_ (a' := ?_) ?_ ?_
                   rotate_left
                   ·show Act.put _ (some 46) _ = _
                    simp only [Act.put, sQ0, sQ1, sQ2, i64_w]
                    rfl
                   exact norm_ (by simp only [putAll, Act.put, sQ0, sQ1, sQ2]) (hCont (v185, v192, v196) _ ⟨hHeld, (by (with_reducible repeat (first | apply Kd.R_alloc | apply Kd.R_drewN | apply Kd.R_drew)); exact Kd.R_mono HO193.out (fun _ hk => ⟨hk.2, hk.1⟩)), (by (with_reducible repeat (first | apply Kd.R_alloc | apply Kd.R_drewN | apply Kd.R_drew)); exact Kd.R_mono HO197.out (fun _ hk => ⟨hk.2, hk.1⟩)), (by (with_reducible repeat (first | apply Kd.R_alloc | apply Kd.R_drewN | apply Kd.R_drew)); exact Kd.R_mono HO_3.out (fun _ hk => ⟨hk.2, hk.1⟩)), (by (with_reducible repeat (first | refine blk_drewN ?_ _ | refine blk_drew ?_ | refine blk_alloc ?_ _)); exact BK176.out), (by repeat (first | (with_reducible first | exact HB.out | apply below_alloc | apply pw_below_drewN | apply below_drew1 | refine below_set ?_ GE176.out) | exact HB.out))⟩)
                 rintro ⟨v185, v192, v196⟩ w35 ⟨hS_, h0_, h1_, h2_, h3_, h4_⟩
                 have n0_ : Aside0 (Kd.R k127 127 w35 w.heap.size (fun k_ => some k_ ≠ (v196 : Value).ownBlock ∧ some k_ ≠ (.slice (some ad181) x3_1.length co26 : Value).ownBlock) v192 y191) := ⟨h0_⟩
                 have n1_ : Aside0 (Kd.R k127 127 w35 w.heap.size (fun k_ => some k_ ≠ (v192 : Value).ownBlock ∧ some k_ ≠ (.slice (some ad181) x3_1.length co26 : Value).ownBlock) v196 y195) := ⟨h1_⟩
                 have n2_ : Aside0 (Kd.R k127 127 w35 w.heap.size (fun k_ => some k_ ≠ (v192 : Value).ownBlock ∧ some k_ ≠ (v196 : Value).ownBlock) (.slice (some ad181) x3_1.length co26) x3_1) := ⟨h2_⟩
                 have n3_ : Aside0 (w35.heap[gb176]? = some (.cells #[.int .i64 a0_0, .slice (some ad180) l0_1.length c0_1] 43 (0, 0))) := ⟨h3_⟩
                 have n4_ : Aside0 (Below w.heap.size w w35) := ⟨h4_⟩
                 clear HO_3
                 clear BK176
                 clear HB
                 clear h0_ h1_ h2_ h3_ h4_
                 have HO193 := n0_
                 have HO197 := n1_
                 have HO_3 := n2_
                 have BK176 := n3_
                 have HB := n4_
                 clear n0_ n1_ n2_ n3_ n4_
                 have hHeld : w35.cell? ⟨gb176, 0, none⟩ = some (.int .i64 a0_0) ∧ w35.cell? ⟨gb176, 1, none⟩ = some (.slice (some ad180) l0_1.length c0_1) ∧ w35.cell? (ad180.add ((x4_1).toNat * 4)) = some (.int .i64 ((rd_T127 l0_1 x4_1).f0.f0)) ∧ w35.cell? ⟨(ad180.add ((x4_1).toNat * 4)).block, (ad180.add ((x4_1).toNat * 4)).off + 1, none⟩ = some (.int .i64 ((rd_T127 l0_1 x4_1).f0.f1)) ∧ w35.cell? ⟨(ad180.add ((x4_1).toNat * 4)).block, (ad180.add ((x4_1).toNat * 4)).off + 2, none⟩ = some (.int .i64 ((rd_T127 l0_1 x4_1).f1)) ∧ w35.cell? ⟨(ad180.add ((x4_1).toNat * 4)).block, (ad180.add ((x4_1).toNat * 4)).off + 3, none⟩ = some (.int .i64 ((rd_T127 l0_1 x4_1).f2)) := hS_
                 obtain ⟨Ao37, co37, eo37⟩ := Kd.R_slice HO197.out
                 (first | subst eo37 | (injection eo37 with f1_ f2_ f3_; have f4_ := f1_.symm; have f5_ := f3_.symm; clear f1_ f2_ f3_; subst f4_; subst f5_))
                 refine norm_ (a' := ?_) ?_ ?_
                 rotate_left
                 ·simp only [putAll, Act.put, sQ0, sQ1, sQ2]
                  rfl
                 refine one_ (i := 11) (N := some 53) #[tt,tt,tt,tt,tt,tt,tt,tt,tt,tt,tt,tt,ff] rfl rfl (one_of HT_.out (by kernel_rfl)) (by decide) (fun K hK => ?_)
                 refine Kd.R_append_rows_step k127 (w0 := w) w.heap.size (by rfl) (.tmp 46) (.tmp 52) 41 127 (.agg #[(.int .i64 0), (.int .i64 0), (.int .i64 0), (.int .i64 0)]) 32 rfl Try.underlying41 info127 rfl (by decide) (by omega) v192 y191 y195 _ _ _ (fun k_ => some k_ ≠ (.slice (some ad181) x3_1.length co26 : Value).ownBlock ∧ some k_ ≠ (.slice Ao37 y195.length co37 : Value).ownBlock) (fun _ => False) rfl rfl ?aO ?aR (fun _ _ h => h) (fun _ h => h.elim) ?aF ?aB ?aS ?aL ?_
                 (case aR => repeat (first | exact (Kd.R_reads' HO197.out).2.2 | (with_reducible refine Kd.C_alloc ?_ _) | (with_reducible refine Kd.C_drewN ?_ _) | (with_reducible refine Kd.C_drew ?_)))
                 (case aB => exact (by repeat (first | (with_reducible first | exact HB.out | apply below_alloc | apply pw_below_drewN | apply below_drew1 | refine below_set ?_ GE176.out) | exact HB.out)))
                 (case aF => exact (fun k_ hk => ⟨Kd.fresh' (Kd.R_lt (by (with_reducible repeat (first | apply Kd.R_alloc | apply Kd.R_drewN | apply Kd.R_drew)); exact HO_3.out)) k_ hk, Kd.fresh' (Kd.R_lt (by (with_reducible repeat (first | apply Kd.R_alloc | apply Kd.R_drewN | apply Kd.R_drew)); exact HO197.out)) k_ hk⟩))
                 (case aO => exact (by (with_reducible repeat (first | apply Kd.R_alloc | apply Kd.R_drewN | apply Kd.R_drew)); exact Kd.R_mono HO193.out (fun _ hk => ⟨hk.2, hk.1⟩)))
                 (case aS => exact (below_size (by repeat (first | (with_reducible first | exact HB.out | apply below_alloc | apply pw_below_drewN | apply below_drew1 | refine below_set ?_ GE176.out) | exact HB.out))))
                 (case aL => have := LMc21.out; omega)
                 intro v199 w36 ho hb hg hat
                 rw [← Ny198.out] at ho
                 have n0_ := Aside0.mk (Kd.R_after (ok := (fun k_ => some k_ ≠ (.slice Ao37 y195.length co37 : Value).ownBlock)) (by (with_reducible repeat (first | apply Kd.R_alloc | apply Kd.R_drewN | apply Kd.R_drew)); exact Kd.R_mono HO_3.out (fun _ hk => ⟨hk.2, hk.1⟩)) hg hat)
                 have n1_ := Aside0.mk (blk_grown (g := gb176) (o := .cells #[.int .i64 a0_0, .slice (some ad180) l0_1.length c0_1] 43 (0, 0)) (by (with_reducible repeat (first | refine blk_drewN ?_ _ | refine blk_drew ?_ | refine blk_alloc ?_ _)); exact BK176.out) hg (Kd.R_ne HO193.out BK176.out (by decide)))
                 have n2_ := Aside0.mk (Kd.R_after (ok := (fun k_ => some k_ ≠ (.slice (some ad181) x3_1.length co26 : Value).ownBlock)) (by (with_reducible repeat (first | apply Kd.R_alloc | apply Kd.R_drewN | apply Kd.R_drew)); exact Kd.R_mono HO197.out (fun _ hk => ⟨hk.2, hk.1⟩)) hg hat)
                 have n3_ := Aside0.mk (hb)
                 have n4_ := Aside0.mk (ho)
                 clear HO_3
                 clear BK176
                 clear HO197
                 clear HB
                 clear HO193
                 have HO_3 := n0_
                 have BK176 := n1_
                 have HO197 := n2_
                 have HB := n3_
                 have HO200 := n4_
                 clear n0_ n1_ n2_ n3_ n4_
                 clear ho hb hg hat
                 refine hK.out _ _ ⟨(blk_cell BK176.out 0).trans rfl, (blk_cell BK176.out 1).trans rfl, ((HB.out.cell (World.block_lt_of_cell? w _ hw194_0)).trans hw194_0), ((HB.out.cell (World.block_lt_of_cell? w _ hw194_1)).trans hw194_1), ((HB.out.cell (World.block_lt_of_cell? w _ hw194_2)).trans hw194_2), ((HB.out.cell (World.block_lt_of_cell? w _ hw194_3)).trans hw194_3)⟩ (fun hHeld => ?_)
                 clear hK K
                 refine norm_ (a' := ?_) ?_ ?_
                 rotate_left
                 ·show Act.put _ (some 53) _ = _
                  simp only [Act.put, sQ0, sQ1, sQ2, i64_w]
                  rfl
                 refine pure_ (i := 12) (N := some 6) (v := ?_) (a' := ?_) #[tt,tt,tt,tt,tt,tt,tt,tt,tt,tt,tt,tt,tt] rfl rfl (any_of HT_.out (by kernel_rfl)) (fun _ _ _ h => h) (Or.inl ⟨by rfl, ?_⟩) ?_ ?_
                 rotate_left
                 ·intro w'
                  go_simp
                  with_reducible rfl
                 rotate_left
                 ·simp only [Act.put, sQ0, sQ1, sQ2, i64_w]
                  rfl
                 refine done_ (done_of HT_.out (by kernel_rfl)) ?_
                 have q38 : (x5_2 : Int) ≤ ((x3_1.length : Int) : Int) := of_decide_eq_true (by first | (with_reducible assumption) | assumption)
                 obtain ⟨i038, hi038, _, hsz38, _⟩ := info_parts info127
                 have hroom38 : x3_1.length ≤ co26 := (Kd.R_reads' HO_3.out).2.1
                 have hC38 : Kd.C k127 _ (some ad181) x3_1.length x3_1 := (Kd.R_reads' HO_3.out).2.2
                 have q038 : (0 : Int) ≤ (x5_2 : Int) := of_decide_eq_true (by first | (with_reducible assumption) | assumption)
                 have hcut38 := cut_from (P := Try.prog) 41 127 .i64 Try.underlying41 hi038 4 hsz38 (some ad181) x3_1.length co26 x5_2 q038 q38
                 have hr38 := Kd.C_drop (m := (x5_2 : Int).toNat) (c := co26) hC38 (by omega) hroom38
                 obtain ⟨A38, hA38⟩ : ∃ A1, A1 = (if co26 = (x5_2 : Int).toNat then (some ad181) else ((some ad181) : Option Addr).map (·.add ((x5_2 : Int).toNat * 4))) := ⟨_, rfl⟩
                 obtain ⟨c38, hc38⟩ : ∃ c1, c1 = co26 - (x5_2 : Int).toNat := ⟨_, rfl⟩
                 have hy38 : y201.length = x3_1.length - (x5_2 : Int).toNat := (by rw [Ny201.out, List.length_drop] <;> omega)
                 rw [show (x3_1).drop (x5_2 : Int).toNat = y201 from Ny201.out.symm] at hr38
                 replace hr38 : Kd.C k127 _ A38 y201.length y201 := (by rw [hA38]; exact hr38)
                 rw [← hy38, ← hA38, ← hc38] at hcut38
                 have HR204 := Aside0.mk hr38
                 have HC204 := Aside0.mk (show y201.length ≤ c38 from by rw [hy38, hc38]; exact Nat.sub_le_sub_right hroom38 _)
                 clear hr38 hC38 hroom38 hi038 hsz38 hc38
                 have KY38 := Aside0.mk hy38
                 have KA38 := Aside0.mk hA38
                 clear hy38 hA38
                 have KL38 := Aside0.mk (show (x5_2 : Int).toNat ≤ x3_1.length from by omega)
                 replace q38 := eq_true q38
                 try go_wp2_with (first | ((with_reducible refine gate_builtin (b := .append) (xs := #[.tmp 54, .tmp 57]) rfl ?_); at_builtin; refine Kd.R_append_rows k127 (w0 := w) w.heap.size rfl (.tmp 54) (.tmp 57) 41 127 (.agg #[(.int .i64 0), (.int .i64 0), (.int .i64 0), (.int .i64 0)]) 32 rfl Try.underlying41 info127 rfl (by decide) (by omega) v199 y198 y201 _ _ _ (fun k_ => some k_ ≠ (.slice (some ad181) x3_1.length co26 : Value).ownBlock ∧ some k_ ≠ (.slice Ao37 y195.length co37 : Value).ownBlock) (fun _ => False) rfl rfl ?aO ?aR (fun _ _ h => h) (fun _ h => h.elim) ?aF ?aB ?aS ?aL ?_; (case aR => repeat (first | exact (by repeat (first | (with_reducible exact HR204.out) | (with_reducible refine Kd.C_alloc ?_ _) | (with_reducible refine Kd.C_drewN ?_ _) | (with_reducible refine Kd.C_drew ?_) | exact HR204.out)) | (with_reducible refine Kd.C_alloc ?_ _) | (with_reducible refine Kd.C_drewN ?_ _) | (with_reducible refine Kd.C_drew ?_))); (case aB => exact (by repeat (first | (with_reducible first | exact HB.out | apply below_alloc | apply pw_below_drewN | apply below_drew1 | refine below_set ?_ GE176.out) | exact HB.out))); (case aF => exact (fun k_ hk => ⟨Kd.fresh' (Kd.R_lt (by (with_reducible repeat (first | apply Kd.R_alloc | apply Kd.R_drewN | apply Kd.R_drew)); exact HO_3.out)) k_ hk, Kd.fresh' (Kd.R_lt (by (with_reducible repeat (first | apply Kd.R_alloc | apply Kd.R_drewN | apply Kd.R_drew)); exact HO197.out)) k_ hk⟩)); (case aO => exact (by (with_reducible repeat (first | apply Kd.R_alloc | apply Kd.R_drewN | apply Kd.R_drew)); exact HO200.out)); (case aS => exact (below_size (by repeat (first | (with_reducible first | exact HB.out | apply below_alloc | apply pw_below_drewN | apply below_drew1 | refine below_set ?_ GE176.out) | exact HB.out)))); (case aL => have := LMc24.out; omega); intro v206 w39 ho hb hg hat; rw [← Ny205.out] at ho; have n0_ := Aside0.mk (Kd.R_after (ok := (fun k_ => some k_ ≠ (.slice Ao37 y195.length co37 : Value).ownBlock)) (by (with_reducible repeat (first | apply Kd.R_alloc | apply Kd.R_drewN | apply Kd.R_drew)); exact HO_3.out) hg hat); have n1_ := Aside0.mk (blk_grown (g := gb176) (o := .cells #[.int .i64 a0_0, .slice (some ad180) l0_1.length c0_1] 43 (0, 0)) (by (with_reducible repeat (first | refine blk_drewN ?_ _ | refine blk_drew ?_ | refine blk_alloc ?_ _)); exact BK176.out) hg (Kd.R_ne HO200.out BK176.out (by decide))); have n2_ := Aside0.mk (Kd.R_after (ok := (fun k_ => some k_ ≠ (.slice (some ad181) x3_1.length co26 : Value).ownBlock)) (by (with_reducible repeat (first | apply Kd.R_alloc | apply Kd.R_drewN | apply Kd.R_drew)); exact HO197.out) hg hat); have n3_ := Aside0.mk (hb); have n4_ := Aside0.mk ((show Kd.C k127 w39 A38 y201.length y201 from by rw [Ny201.out, KA38.out]; exact Kd.C_drop (m := (x5_2 : Int).toNat) (c := co26) ((Kd.R_reads' (Kd.R_after (ok := (fun k_ => some k_ ≠ (.slice Ao37 y195.length co37 : Value).ownBlock)) (by (with_reducible repeat (first | apply Kd.R_alloc | apply Kd.R_drewN | apply Kd.R_drew)); exact HO_3.out) hg hat)).2.2) KL38.out ((Kd.R_reads' (Kd.R_after (ok := (fun k_ => some k_ ≠ (.slice Ao37 y195.length co37 : Value).ownBlock)) (by (with_reducible repeat (first | apply Kd.R_alloc | apply Kd.R_drewN | apply Kd.R_drew)); exact HO_3.out) hg hat)).2.1))); have n5_ := Aside0.mk (ho); clear HO_3; clear BK176; clear HO197; clear HB; clear HR204; clear HO200; have HO_3 := n0_; have BK176 := n1_; have HO197 := n2_; have HB := n3_; have HR204 := n4_; have HO207 := n5_; clear n0_ n1_ n2_ n3_ n4_ n5_; clear ho hb hg hat))
                 go_roundg k2
                 case measure => have := HK1.out; have := HK2.out; omega
                 case rel => exact ⟨(y205), (wrap64 (x4_1 + 1)), (by first | rfl | (simp; done) | (simp [*]; done)), H', ⟨by have := HK1.out; have := HK2.out; omega⟩, ⟨by (with_reducible repeat (first | apply Kd.R_alloc | apply Kd.R_drewN | apply Kd.R_drew)); exact Kd.R_mono HO207.out (fun _ hk => trivial)⟩, ⟨by (with_reducible repeat (first | refine blk_drewN ?_ _ | refine blk_drew ?_ | refine blk_alloc ?_ _)); exact BK176.out⟩, ⟨by repeat (first | (with_reducible first | exact HB.out | apply below_alloc | apply pw_below_drewN | apply below_drew1 | refine below_set ?_ GE176.out) | exact HB.out)⟩⟩
                ·rw [if_neg c24] at H
                 exact absurd H (by simp)
               ·rw [if_neg c21] at H
                exact absurd H (by simp)
              ·rw [if_neg c20] at H
               exact absurd H (by simp)
             ·rw [if_neg c19] at H
              exact absurd H (by simp)
           ·rw [if_neg c12] at H
            exact absurd H (by simp)
          ·rw [if_neg c11] at H
           exact absurd H (by simp)
         ·rw [if_neg c10] at H
          exact absurd H (by simp)
        ·rw [if_neg c9] at H
         have c9b0 : decide (x5_2 < (x3_1.length : Int)) = false := decide_eq_false c9
         clear c9
         obtain ⟨y208, hy208⟩ : ∃ y_ : List (S127), y_ = (([] : List (S127))) := ⟨_, rfl⟩
         replace H : (if 0 ≤ x5_2 then (if x5_2 ≤ (x3_1.length : Int) then ((some (x3_1.take (x5_2 : Int).toNat : List (S127))).bind fun y211 => (if y208.length + y211.length < 4398046511104 then ((some (y208 ++ y211 : List (S127))).bind fun y215 => (if 0 ≤ x4_1 then (if x4_1 < (l0_1.length : Int) then ((some (([(⟨(⟨(rd_T127 l0_1 x4_1).f0.f0, (rd_T127 l0_1 x4_1).f0.f1⟩ : S36), (rd_T127 l0_1 x4_1).f1, (rd_T127 l0_1 x4_1).f2⟩ : S127)] : List (S127)) : List (S127))).bind fun y219 => (if y215.length + y219.length < 4398046511104 then ((some (y215 ++ y219 : List (S127))).bind fun y222 => ((some (x3_1.drop (x5_2 : Int).toNat : List (S127))).bind fun y225 => (if y222.length + y225.length < 4398046511104 then (knellref12_Armeds.l0 k2 (y222 ++ y225) (wrap64 (x4_1 + 1)) a0_0 l0_1) else (none)))) else (none))) else (none)) else (none))) else (none))) else (none)) else (none)) = some r := by first | (rw [hy208]; with_reducible exact H) | (have H2_ := (Option.bind_some _ _).symm.trans H; rw [hy208]; with_reducible exact H2_) | (have H2_ := (Option.bind_some _ _).symm.trans H; with_reducible exact H2_) | with_reducible exact H | (rw [hy208]; exact H) | exact H
         have Ny208 := Aside0.mk hy208
         clear hy208
         by_cases c40 : 0 ≤ x5_2
         ·rw [if_pos c40] at H
          have c40b0 := eq_true c40
          have c40b1 : decide (0 ≤ x5_2) = true := decide_eq_true c40
          clear c40
          by_cases c41 : x5_2 ≤ (x3_1.length : Int)
          ·rw [if_pos c41] at H
           have c41b0 := eq_true c41
           have c41b1 : decide (x5_2 ≤ (x3_1.length : Int)) = true := decide_eq_true c41
           clear c41
           obtain ⟨y211, hy211⟩ : ∃ y_ : List (S127), y_ = (x3_1.take (x5_2 : Int).toNat) := ⟨_, rfl⟩
           replace H : (if y208.length + y211.length < 4398046511104 then ((some (y208 ++ y211 : List (S127))).bind fun y215 => (if 0 ≤ x4_1 then (if x4_1 < (l0_1.length : Int) then ((some (([(⟨(⟨(rd_T127 l0_1 x4_1).f0.f0, (rd_T127 l0_1 x4_1).f0.f1⟩ : S36), (rd_T127 l0_1 x4_1).f1, (rd_T127 l0_1 x4_1).f2⟩ : S127)] : List (S127)) : List (S127))).bind fun y219 => (if y215.length + y219.length < 4398046511104 then ((some (y215 ++ y219 : List (S127))).bind fun y222 => ((some (x3_1.drop (x5_2 : Int).toNat : List (S127))).bind fun y225 => (if y222.length + y225.length < 4398046511104 then (knellref12_Armeds.l0 k2 (y222 ++ y225) (wrap64 (x4_1 + 1)) a0_0 l0_1) else (none)))) else (none))) else (none)) else (none))) else (none)) = some r := by first | (rw [hy211]; with_reducible exact H) | (have H2_ := (Option.bind_some _ _).symm.trans H; rw [hy211]; with_reducible exact H2_) | (have H2_ := (Option.bind_some _ _).symm.trans H; with_reducible exact H2_) | with_reducible exact H | (rw [hy211]; exact H) | exact H
           have Ny211 := Aside0.mk hy211
           clear hy211
           by_cases c42 : y208.length + y211.length < 4398046511104
           ·rw [if_pos c42] at H
            have LMc42 := Aside0.mk c42
            clear c42
            obtain ⟨y215, hy215⟩ : ∃ y_ : List (S127), y_ = (y208 ++ y211) := ⟨_, rfl⟩
            replace H : (if 0 ≤ x4_1 then (if x4_1 < (l0_1.length : Int) then ((some (([(⟨(⟨(rd_T127 l0_1 x4_1).f0.f0, (rd_T127 l0_1 x4_1).f0.f1⟩ : S36), (rd_T127 l0_1 x4_1).f1, (rd_T127 l0_1 x4_1).f2⟩ : S127)] : List (S127)) : List (S127))).bind fun y219 => (if y215.length + y219.length < 4398046511104 then ((some (y215 ++ y219 : List (S127))).bind fun y222 => ((some (x3_1.drop (x5_2 : Int).toNat : List (S127))).bind fun y225 => (if y222.length + y225.length < 4398046511104 then (knellref12_Armeds.l0 k2 (y222 ++ y225) (wrap64 (x4_1 + 1)) a0_0 l0_1) else (none)))) else (none))) else (none)) else (none)) = some r := by first | (rw [hy215]; with_reducible exact H) | (have H2_ := (Option.bind_some _ _).symm.trans H; rw [hy215]; with_reducible exact H2_) | (have H2_ := (Option.bind_some _ _).symm.trans H; with_reducible exact H2_) | with_reducible exact H | (rw [hy215]; exact H) | exact H
            have Ny215 := Aside0.mk hy215
            clear hy215
            by_cases c43 : 0 ≤ x4_1
            ·rw [if_pos c43] at H
             have c43b0 : decide (0 ≤ x4_1) = true := decide_eq_true c43
             clear c43
             by_cases c44 : x4_1 < (l0_1.length : Int)
             ·rw [if_pos c44] at H
              have c44b0 : decide (x4_1 < (l0_1.length : Int)) = true := decide_eq_true c44
              clear c44
              obtain ⟨y219, hy219⟩ : ∃ y_ : List (S127), y_ = (([(⟨(⟨(rd_T127 l0_1 x4_1).f0.f0, (rd_T127 l0_1 x4_1).f0.f1⟩ : S36), (rd_T127 l0_1 x4_1).f1, (rd_T127 l0_1 x4_1).f2⟩ : S127)] : List (S127))) := ⟨_, rfl⟩
              replace H : (if y215.length + y219.length < 4398046511104 then ((some (y215 ++ y219 : List (S127))).bind fun y222 => ((some (x3_1.drop (x5_2 : Int).toNat : List (S127))).bind fun y225 => (if y222.length + y225.length < 4398046511104 then (knellref12_Armeds.l0 k2 (y222 ++ y225) (wrap64 (x4_1 + 1)) a0_0 l0_1) else (none)))) else (none)) = some r := by first | (rw [hy219]; with_reducible exact H) | (have H2_ := (Option.bind_some _ _).symm.trans H; rw [hy219]; with_reducible exact H2_) | (have H2_ := (Option.bind_some _ _).symm.trans H; with_reducible exact H2_) | with_reducible exact H | (rw [hy219]; exact H) | exact H
              have Ny219 := Aside0.mk hy219
              clear hy219
              by_cases c45 : y215.length + y219.length < 4398046511104
              ·rw [if_pos c45] at H
               have LMc45 := Aside0.mk c45
               clear c45
               obtain ⟨y222, hy222⟩ : ∃ y_ : List (S127), y_ = (y215 ++ y219) := ⟨_, rfl⟩
               replace H : ((some (x3_1.drop (x5_2 : Int).toNat : List (S127))).bind fun y225 => (if y222.length + y225.length < 4398046511104 then (knellref12_Armeds.l0 k2 (y222 ++ y225) (wrap64 (x4_1 + 1)) a0_0 l0_1) else (none))) = some r := by first | (rw [hy222]; with_reducible exact H) | (have H2_ := (Option.bind_some _ _).symm.trans H; rw [hy222]; with_reducible exact H2_) | (have H2_ := (Option.bind_some _ _).symm.trans H; with_reducible exact H2_) | with_reducible exact H | (rw [hy222]; exact H) | exact H
               have Ny222 := Aside0.mk hy222
               clear hy222
               have c46b0 := eq_true (of_decide_eq_true (by first | (with_reducible assumption) | assumption) : 0 ≤ x5_2)
               have c47b0 := eq_true (of_decide_eq_true (by first | (with_reducible assumption) | assumption) : x5_2 ≤ (x3_1.length : Int))
               obtain ⟨y225, hy225⟩ : ∃ y_ : List (S127), y_ = (x3_1.drop (x5_2 : Int).toNat) := ⟨_, rfl⟩
               replace H : (if y222.length + y225.length < 4398046511104 then (knellref12_Armeds.l0 k2 (y222 ++ y225) (wrap64 (x4_1 + 1)) a0_0 l0_1) else (none)) = some r := by first | (rw [hy225]; with_reducible exact H) | (have H2_ := (Option.bind_some _ _).symm.trans H; rw [hy225]; with_reducible exact H2_) | (have H2_ := (Option.bind_some _ _).symm.trans H; with_reducible exact H2_) | with_reducible exact H | (rw [hy225]; exact H) | exact H
               have Ny225 := Aside0.mk hy225
               clear hy225
               by_cases c48 : y222.length + y225.length < 4398046511104
               ·rw [if_pos c48] at H
                have LMc48 := Aside0.mk c48
                clear c48
                obtain ⟨y229, hy229⟩ : ∃ y_ : List (S127), y_ = (y222 ++ y225) := ⟨_, rfl⟩
                replace H : (knellref12_Armeds.l0 k2 y229 (wrap64 (x4_1 + 1)) a0_0 l0_1) = some r := by first | (rw [hy229]; with_reducible exact H) | (have H2_ := (Option.bind_some _ _).symm.trans H; rw [hy229]; with_reducible exact H2_) | (have H2_ := (Option.bind_some _ _).symm.trans H; with_reducible exact H2_) | with_reducible exact H | (rw [hy229]; exact H) | exact H
                have Ny229 := Aside0.mk hy229
                clear hy229
                have H' := Aside0.mk H
                clear H
                try go_wp2
                have n0_ := Aside0.mk (Kd.R_drew HO_3.out)
                have n1_ := Aside0.mk (blk_drew BK176.out)
                have n2_ := Aside0.mk (below_drew1 HB.out)
                clear HO_3
                clear BK176
                clear HB
                have HO_3 := n0_
                have BK176 := n1_
                have HB := n2_
                clear n0_ n1_ n2_
                obtain ⟨Ao50, co50, eo50⟩ := Kd.R_slice HO_3.out
                (first | subst eo50 | (injection eo50 with f1_ f2_ f3_; have f4_ := f1_.symm; have f5_ := f3_.symm; clear f1_ f2_ f3_; subst f4_; subst f5_))
                refine start_ (n := 18) (S := fun w' => True) (ds := []) #[ff,ff,ff,ff,ff,ff,ff,ff,ff,ff,ff,ff,ff,ff,ff,ff,ff,ff] (by kernel_rfl) rfl rfl trivial (fun hHeld => ?_); refine with_tabW knellref12_Armeds.tab7 knellref12_Armeds.bits7 (fun HT_ HW_ => ?_)
                generalize wr.drew = w49 at HO_3 BK176 HB hHeld ⊢
                refine pure_ (i := 0) (N := some 22) (v := ?_) (a' := ?_) #[tt,ff,ff,ff,ff,ff,ff,ff,ff,ff,ff,ff,ff,ff,ff,ff,ff,ff] rfl rfl (any_of HT_.out (by kernel_rfl)) (fun _ _ _ h => h) (Or.inl ⟨by rfl, ?_⟩) ?_ ?_
                rotate_left
                ·intro w'
                 go_simp
                 with_reducible rfl
                rotate_left
                ·simp only [Act.put, sQ0, sQ1, sQ2, i64_w]
                 rfl
                refine pure_ (i := 1) (N := some 23) (v := ?_) (a' := ?_) #[tt,tt,ff,ff,ff,ff,ff,ff,ff,ff,ff,ff,ff,ff,ff,ff,ff,ff] rfl rfl (any_of HT_.out (by kernel_rfl)) (fun _ _ _ h => h) (Or.inl ⟨by rfl, ?_⟩) ?_ ?_
                rotate_left
                ·intro w'
                 go_simp
                 with_reducible rfl
                rotate_left
                ·simp only [Act.put, sQ0, sQ1, sQ2, i64_w]
                 rfl
                refine pure_ (i := 2) (N := some 24) (v := ?_) (a' := ?_) #[tt,tt,tt,ff,ff,ff,ff,ff,ff,ff,ff,ff,ff,ff,ff,ff,ff,ff] rfl rfl (any_of HT_.out (by kernel_rfl)) (fun _ _ _ h => h) (Or.inl ⟨by rfl, ?_⟩) ?_ ?_
                rotate_left
                ·intro w'
                 go_simp
                 with_reducible rfl
                rotate_left
                ·simp only [Act.put, sQ0, sQ1, sQ2, i64_w]
                 rfl
                refine pure_ (i := 3) (N := some 25) (v := ?_) (a' := ?_) #[tt,tt,tt,tt,ff,ff,ff,ff,ff,ff,ff,ff,ff,ff,ff,ff,ff,ff] rfl rfl (any_of HT_.out (by kernel_rfl)) (fun _ _ _ h => h) (Or.inl ⟨by rfl, ?_⟩) ?_ ?_
                rotate_left
                ·intro w'
                 go_simp
                 with_reducible rfl
                rotate_left
                ·simp only [Act.put, sQ0, sQ1, sQ2, i64_w]
                 rfl
                refine pure_ (i := 4) (N := some 26) (v := ?_) (a' := ?_) #[tt,tt,tt,tt,tt,ff,ff,ff,ff,ff,ff,ff,ff,ff,ff,ff,ff,ff] rfl rfl (any_of HT_.out (by kernel_rfl)) (fun _ _ _ h => h) (Or.inl ⟨by rfl, ?_⟩) ?_ ?_
                rotate_left
                ·intro w'
                 go_simp
                 with_reducible rfl
                rotate_left
                ·simp only [Act.put, sQ0, sQ1, sQ2, i64_w]
                 rfl
                refine pure_ (i := 5) (N := some 27) (v := undef) (a' := ?_) #[tt,tt,tt,tt,tt,tt,ff,ff,ff,ff,ff,ff,ff,ff,ff,ff,ff,ff] rfl rfl (any_of HT_.out (by kernel_rfl)) (fun _ _ _ h => h) (Or.inr ⟨by rfl, rfl⟩) ?_ ?_
                rotate_left
                ·simp only [Act.put, sQ0, sQ1, sQ2, i64_w]
                 rfl
                refine pure_ (i := 6) (N := some 28) (v := undef) (a' := ?_) #[tt,tt,tt,tt,tt,tt,tt,ff,ff,ff,ff,ff,ff,ff,ff,ff,ff,ff] rfl rfl (any_of HT_.out (by kernel_rfl)) (fun _ _ _ h => h) (Or.inr ⟨by rfl, rfl⟩) ?_ ?_
                rotate_left
                ·simp only [Act.put, sQ0, sQ1, sQ2, i64_w]
                 rfl
                refine pure_ (i := 7) (N := some 29) (v := undef) (a' := ?_) #[tt,tt,tt,tt,tt,tt,tt,tt,ff,ff,ff,ff,ff,ff,ff,ff,ff,ff] rfl rfl (any_of HT_.out (by kernel_rfl)) (fun _ _ _ h => h) (Or.inr ⟨by rfl, rfl⟩) ?_ ?_
                rotate_left
                ·simp only [Act.put, sQ0, sQ1, sQ2, i64_w]
                 rfl
                refine pure_ (i := 8) (N := some 30) (v := undef) (a' := ?_) #[tt,tt,tt,tt,tt,tt,tt,tt,tt,ff,ff,ff,ff,ff,ff,ff,ff,ff] rfl rfl (any_of HT_.out (by kernel_rfl)) (fun _ _ _ h => h) (Or.inr ⟨by rfl, rfl⟩) ?_ ?_
                rotate_left
                ·simp only [Act.put, sQ0, sQ1, sQ2, i64_w]
                 rfl
                refine pure_ (i := 9) (N := some 31) (v := undef) (a' := ?_) #[tt,tt,tt,tt,tt,tt,tt,tt,tt,tt,ff,ff,ff,ff,ff,ff,ff,ff] rfl rfl (any_of HT_.out (by kernel_rfl)) (fun _ _ _ h => h) (Or.inr ⟨by rfl, rfl⟩) ?_ ?_
                rotate_left
                ·simp only [Act.put, sQ0, sQ1, sQ2, i64_w]
                 rfl
                refine pure_ (i := 10) (N := some 32) (v := undef) (a' := ?_) #[tt,tt,tt,tt,tt,tt,tt,tt,tt,tt,tt,ff,ff,ff,ff,ff,ff,ff] rfl rfl (any_of HT_.out (by kernel_rfl)) (fun _ _ _ h => h) (Or.inr ⟨by rfl, rfl⟩) ?_ ?_
                rotate_left
                ·simp only [Act.put, sQ0, sQ1, sQ2, i64_w]
                 rfl
                refine pure_ (i := 11) (N := some 33) (v := undef) (a' := ?_) #[tt,tt,tt,tt,tt,tt,tt,tt,tt,tt,tt,tt,ff,ff,ff,ff,ff,ff] rfl rfl (any_of HT_.out (by kernel_rfl)) (fun _ _ _ h => h) (Or.inr ⟨by rfl, rfl⟩) ?_ ?_
                rotate_left
                ·simp only [Act.put, sQ0, sQ1, sQ2, i64_w]
                 rfl
                refine pure_ (i := 12) (N := some 34) (v := undef) (a' := ?_) #[tt,tt,tt,tt,tt,tt,tt,tt,tt,tt,tt,tt,tt,ff,ff,ff,ff,ff] rfl rfl (any_of HT_.out (by kernel_rfl)) (fun _ _ _ h => h) (Or.inr ⟨by rfl, rfl⟩) ?_ ?_
                rotate_left
                ·simp only [Act.put, sQ0, sQ1, sQ2, i64_w]
                 rfl
                refine pure_ (i := 13) (N := some 35) (v := undef) (a' := ?_) #[tt,tt,tt,tt,tt,tt,tt,tt,tt,tt,tt,tt,tt,tt,ff,ff,ff,ff] rfl rfl (any_of HT_.out (by kernel_rfl)) (fun _ _ _ h => h) (Or.inr ⟨by rfl, rfl⟩) ?_ ?_
                rotate_left
                ·simp only [Act.put, sQ0, sQ1, sQ2, i64_w]
                 rfl
                refine pure_ (i := 14) (N := some 36) (v := undef) (a' := ?_) #[tt,tt,tt,tt,tt,tt,tt,tt,tt,tt,tt,tt,tt,tt,tt,ff,ff,ff] rfl rfl (any_of HT_.out (by kernel_rfl)) (fun _ _ _ h => h) (Or.inr ⟨by rfl, rfl⟩) ?_ ?_
                rotate_left
                ·simp only [Act.put, sQ0, sQ1, sQ2, i64_w]
                 rfl
                refine pure_ (i := 15) (N := some 37) (v := undef) (a' := ?_) #[tt,tt,tt,tt,tt,tt,tt,tt,tt,tt,tt,tt,tt,tt,tt,tt,ff,ff] rfl rfl (any_of HT_.out (by kernel_rfl)) (fun _ _ _ h => h) (Or.inr ⟨by rfl, rfl⟩) ?_ ?_
                rotate_left
                ·simp only [Act.put, sQ0, sQ1, sQ2, i64_w]
                 rfl
                refine pure_ (i := 16) (N := some 38) (v := undef) (a' := ?_) #[tt,tt,tt,tt,tt,tt,tt,tt,tt,tt,tt,tt,tt,tt,tt,tt,tt,ff] rfl rfl (any_of HT_.out (by kernel_rfl)) (fun _ _ _ h => h) (Or.inr ⟨by rfl, rfl⟩) ?_ ?_
                rotate_left
                ·simp only [Act.put, sQ0, sQ1, sQ2, i64_w]
                 rfl
                refine pure_ (i := 17) (N := some 39) (v := ?_) (a' := ?_) #[tt,tt,tt,tt,tt,tt,tt,tt,tt,tt,tt,tt,tt,tt,tt,tt,tt,tt] rfl rfl (any_of HT_.out (by kernel_rfl)) (fun _ _ _ h => h) (Or.inl ⟨by rfl, ?_⟩) ?_ ?_
                rotate_left
                ·intro w'
                 go_simp
                 with_reducible rfl
                rotate_left
                ·simp only [Act.put, sQ0, sQ1, sQ2, i64_w]
                 rfl
                refine done_ (done_of HT_.out (by kernel_rfl)) ?_
                try go_wp2
                have n0_ := Aside0.mk (Kd.R_drew HO_3.out)
                have n1_ := Aside0.mk (blk_drew BK176.out)
                have n2_ := Aside0.mk (below_drew1 HB.out)
                clear HO_3
                clear BK176
                clear HB
                have HO_3 := n0_
                have BK176 := n1_
                have HB := n2_
                clear n0_ n1_ n2_
                have q52 : (x5_2 : Int) ≤ ((x3_1.length : Int) : Int) := of_decide_eq_true (by first | (with_reducible assumption) | assumption)
                obtain ⟨i052, hi052, _, hsz52, _⟩ := info_parts info127
                have hroom52 : x3_1.length ≤ co50 := (Kd.R_reads' HO_3.out).2.1
                have hC52 : Kd.C k127 _ Ao50 x3_1.length x3_1 := (Kd.R_reads' HO_3.out).2.2
                have hcut52 := cut_to (P := Try.prog) 41 127 .i64 Try.underlying41 hi052 Ao50 x3_1.length co50 x5_2 (of_decide_eq_true (by first | (with_reducible assumption) | assumption)) q52 hroom52
                have hr52 := Kd.C_take (m := (x5_2 : Int).toNat) hC52 (by omega)
                have hy52 : y211.length = (x5_2 : Int).toNat := (by rw [Ny211.out, List.length_take]; omega)
                rw [← Ny211.out] at hr52
                rw [← hy52] at hcut52
                have HR214 := Aside0.mk hr52
                have HC214 := Aside0.mk (show y211.length ≤ co50 from by omega)
                clear hr52 hC52 hroom52 hi052 hsz52
                have KY52 := Aside0.mk hy52
                clear hy52
                have KL52 := Aside0.mk (show (x5_2 : Int).toNat ≤ x3_1.length from by omega)
                replace q52 := eq_true q52
                have p218 : 0 ≤ (x4_1 : Int) := of_decide_eq_true (by first | (with_reducible assumption) | assumption)
                have q218 : x4_1 < (l0_1.length : Int) := of_decide_eq_true (by first | (with_reducible assumption) | assumption)
                obtain ⟨ad218, e218, hx218_0, hx218_1, hx218_2, hx218_3⟩ := at_T127 HR0_1.out x4_1 p218 q218
                have hw218_3 := hx218_3
                have hw218_2 := hx218_2
                have hw218_1 := hx218_1
                have hw218_0 := hx218_0
                obtain rfl : ad180 = ad218 := (by injection e218)
                replace hx218_0 := (HB.out.cell (World.block_lt_of_cell? w _ hx218_0)).trans hx218_0
                replace hx218_1 := (HB.out.cell (World.block_lt_of_cell? w _ hx218_1)).trans hx218_1
                replace hx218_2 := (HB.out.cell (World.block_lt_of_cell? w _ hx218_2)).trans hx218_2
                replace hx218_3 := (HB.out.cell (World.block_lt_of_cell? w _ hx218_3)).trans hx218_3
                replace p218 := eq_true p218
                replace q218 := eq_true q218
                refine start_ (n := 13) (S := fun w' => w'.cell? ⟨gb176, 0, none⟩ = some (.int .i64 a0_0) ∧ w'.cell? ⟨gb176, 1, none⟩ = some (.slice (some ad180) l0_1.length c0_1) ∧ w'.cell? (ad180.add ((x4_1).toNat * 4)) = some (.int .i64 ((rd_T127 l0_1 x4_1).f0.f0)) ∧ w'.cell? ⟨(ad180.add ((x4_1).toNat * 4)).block, (ad180.add ((x4_1).toNat * 4)).off + 1, none⟩ = some (.int .i64 ((rd_T127 l0_1 x4_1).f0.f1)) ∧ w'.cell? ⟨(ad180.add ((x4_1).toNat * 4)).block, (ad180.add ((x4_1).toNat * 4)).off + 2, none⟩ = some (.int .i64 ((rd_T127 l0_1 x4_1).f1)) ∧ w'.cell? ⟨(ad180.add ((x4_1).toNat * 4)).block, (ad180.add ((x4_1).toNat * 4)).off + 3, none⟩ = some (.int .i64 ((rd_T127 l0_1 x4_1).f2))) (ds := []) #[ff,ff,ff,ff,ff,ff,ff,ff,ff,ff,ff,ff,ff] (by kernel_rfl) rfl rfl ⟨(blk_cell BK176.out 0).trans rfl, (blk_cell BK176.out 1).trans rfl, ((HB.out.cell (World.block_lt_of_cell? w _ hw218_0)).trans hw218_0), ((HB.out.cell (World.block_lt_of_cell? w _ hw218_1)).trans hw218_1), ((HB.out.cell (World.block_lt_of_cell? w _ hw218_2)).trans hw218_2), ((HB.out.cell (World.block_lt_of_cell? w _ hw218_3)).trans hw218_3)⟩ (fun hHeld => ?_); refine with_tabW knellref12_Armeds.tab9 knellref12_Armeds.bits9 (fun HT_ HW_ => ?_)
                generalize w49.drew = w51 at HO_3 BK176 HB HR214 hx218_0 hx218_1 hx218_2 hx218_3 hHeld ⊢
                refine pure_ (i := 1) (N := some 43) (v := ?_) (a' := ?_) #[ff,tt,ff,ff,ff,ff,ff,ff,ff,ff,ff,ff,ff] rfl rfl (any_of HT_.out (by kernel_rfl)) (fun _ _ _ h => h) (Or.inl ⟨by rfl, ?_⟩) ?_ ?_
                rotate_left
                ·intro w'
                 go_simp
                 with_reducible rfl
                rotate_left
                ·simp only [Act.put, sQ0, sQ1, sQ2, i64_w]
                 rfl
                refine pure_ (i := 2) (N := some 44) (v := ?_) (a' := ?_) #[ff,tt,tt,ff,ff,ff,ff,ff,ff,ff,ff,ff,ff] rfl rfl (any_of HT_.out (by kernel_rfl)) (fun _ _ _ h => h) (Or.inl ⟨by rfl, ?_⟩) ?_ ?_
                rotate_left
                ·intro w'
                 go_simp
                 with_reducible rfl
                rotate_left
                ·simp only [Act.put, sQ0, sQ1, sQ2, i64_w]
                 rfl
                refine pure_ (i := 3) (N := some 45) (v := ?_) (a' := ?_) #[ff,tt,tt,tt,ff,ff,ff,ff,ff,ff,ff,ff,ff] rfl rfl (any_of HT_.out (by kernel_rfl)) (fun _ _ _ h => h) (Or.inl ⟨by rfl, ?_⟩) ?_ ?_
                rotate_left
                ·intro w'
                 go_simp
                 with_reducible rfl
                rotate_left
                ·simp only [Act.put, sQ0, sQ1, sQ2, i64_w]
                 rfl
                refine pure_ (i := 5) (N := some 47) (v := ?_) (a' := ?_) #[ff,tt,tt,tt,ff,tt,ff,ff,ff,ff,ff,ff,ff] rfl rfl (any_of HT_.out (by kernel_rfl)) (fun _ _ _ h => h) (Or.inl ⟨by rfl, ?_⟩) ?_ ?_
                rotate_left
                ·intro w'
                 go_simp
                 with_reducible rfl
                rotate_left
                ·simp only [Act.put, sQ0, sQ1, sQ2, i64_w]
                 rfl
                refine pure_ (i := 7) (N := some 49) (v := ?_) (a' := ?_) #[ff,tt,tt,tt,ff,tt,ff,tt,ff,ff,ff,ff,ff] rfl rfl (any_of HT_.out (by kernel_rfl)) (fun _ _ _ h => h) (Or.inl ⟨by rfl, ?_⟩) ?_ ?_
                rotate_left
                ·intro w'
                 go_simp
                 with_reducible rfl
                rotate_left
                ·simp only [Act.put, sQ0, sQ1, sQ2, i64_w]
                 rfl
                refine take_ (i := 6) (N := some 48) (v := ?_) (a' := ?_) #[ff,tt,tt,tt,ff,tt,tt,tt,ff,ff,ff,ff,ff] rfl rfl (take_ofW HT_.out HW_.out (by kernel_rfl)) (fun _ _ _ h => h) (Or.inl ⟨by rfl, ?_⟩) hHeld ?_ ?_
                rotate_left
                ·rintro w' ⟨s0, s1, s2, s3, s4, s5⟩
                 go_simp
                 with_reducible rfl
                rotate_left
                ·simp only [Act.put, sQ0, sQ1, sQ2, i64_w]
                 rfl
                refine pure_ (i := 8) (N := some 50) (v := ?_) (a' := ?_) #[ff,tt,tt,tt,ff,tt,tt,tt,tt,ff,ff,ff,ff] rfl rfl (any_of HT_.out (by kernel_rfl)) (fun _ _ _ h => h) (Or.inl ⟨by rfl, ?_⟩) ?_ ?_
                rotate_left
                ·intro w'
                 go_simp
                 with_reducible rfl
                rotate_left
                ·simp only [Act.put, sQ0, sQ1, sQ2, i64_w]
                 rfl
                refine take_ (i := 9) (N := some 51) (v := ?_) (a' := ?_) #[ff,tt,tt,tt,ff,tt,tt,tt,tt,tt,ff,ff,ff] rfl rfl (take_ofW HT_.out HW_.out (by kernel_rfl)) (fun _ _ _ h => h) (Or.inl ⟨by rfl, ?_⟩) hHeld ?_ ?_
                rotate_left
                ·rintro w' ⟨s0, s1, s2, s3, s4, s5⟩
                 go_simp
                 with_reducible rfl
                rotate_left
                ·simp only [Act.put, sQ0, sQ1, sQ2, i64_w]
                 rfl
                refine join_ (σ := Value × Value × Value) 2 #[tt,tt,tt,tt,tt,tt,tt,tt,tt,tt,tt,ff,ff] (fun s_ => [(42, s_.1), (46, s_.2.1), (52, s_.2.2)]) (fun s_ w' => (w'.cell? ⟨gb176, 0, none⟩ = some (.int .i64 a0_0) ∧ w'.cell? ⟨gb176, 1, none⟩ = some (.slice (some ad180) l0_1.length c0_1) ∧ w'.cell? (ad180.add ((x4_1).toNat * 4)) = some (.int .i64 ((rd_T127 l0_1 x4_1).f0.f0)) ∧ w'.cell? ⟨(ad180.add ((x4_1).toNat * 4)).block, (ad180.add ((x4_1).toNat * 4)).off + 1, none⟩ = some (.int .i64 ((rd_T127 l0_1 x4_1).f0.f1)) ∧ w'.cell? ⟨(ad180.add ((x4_1).toNat * 4)).block, (ad180.add ((x4_1).toNat * 4)).off + 2, none⟩ = some (.int .i64 ((rd_T127 l0_1 x4_1).f1)) ∧ w'.cell? ⟨(ad180.add ((x4_1).toNat * 4)).block, (ad180.add ((x4_1).toNat * 4)).off + 3, none⟩ = some (.int .i64 ((rd_T127 l0_1 x4_1).f2))) ∧ (Kd.R k127 127 w' w.heap.size (fun k_ => some k_ ≠ (s_.2.2 : Value).ownBlock ∧ some k_ ≠ (.slice Ao50 x3_1.length co50 : Value).ownBlock) s_.2.1 y215) ∧ (Kd.R k127 127 w' w.heap.size (fun k_ => some k_ ≠ (s_.2.1 : Value).ownBlock ∧ some k_ ≠ (.slice Ao50 x3_1.length co50 : Value).ownBlock) s_.2.2 y219) ∧ (Kd.R k127 127 w' w.heap.size (fun k_ => some k_ ≠ (s_.2.1 : Value).ownBlock ∧ some k_ ≠ (s_.2.2 : Value).ownBlock) (.slice Ao50 x3_1.length co50) x3_1) ∧ (w'.heap[gb176]? = some (.cells #[.int .i64 a0_0, .slice (some ad180) l0_1.length c0_1] 43 (0, 0))) ∧ (Below w.heap.size w w')) ?_ ?_
                rotate_left
                ·intro hCont
                 refine two_ (i := 0) (j := 10) (Ni := some 42) (Nj := some 52) #[tt,tt,tt,tt,ff,tt,tt,tt,tt,tt,ff,ff,ff] #[ff,tt,tt,tt,ff,tt,tt,tt,tt,tt,tt,ff,ff] rfl rfl rfl rfl (two_of HT_.out (by kernel_rfl)) (by decide) (by decide) (fun K hK => ?_) (fun K hK => ?_)
                 ·skip
                  refine Kd.R_lit_step k127 _ 127 ?hg (N := 42) ?hd (xs := ([] : List (S127))) (inner := []) (ok := fun _ => True) (okp := fun _ => True) ?hr ?hp (fun _ hk => hk) trivial (Below.refl _ _) (Nat.le_refl _) (by simp) ?_; (case hd => rfl); (case hg => rfl); (case hr => first | (go_simp; done) | (go_simp; rfl)); (case hp => exact (Reps.none _ _))
                  intro v209 w53 ho54 hb hg_ hnew_
                  clear hg_ hnew_
                  (first | rw [← Ny208.out] at ho54 | (simp only [Int.reduceToNat] at ho54; rw [← Ny208.out] at ho54))
                  have n0_ := Aside0.mk (Kd.R_elder' (by (with_reducible repeat (first | apply Kd.R_alloc | apply Kd.R_drewN | apply Kd.R_drew)); exact HO_3.out) (Kd.R_base ho54) hb)
                  have n1_ := Aside0.mk (Kd.R_lower (Kd.R_new' ho54 (Kd.R_lt (by (with_reducible repeat (first | apply Kd.R_alloc | apply Kd.R_drewN | apply Kd.R_drew)); exact HO_3.out))) (below_size (by repeat (first | (with_reducible first | exact HB.out | apply below_alloc | apply pw_below_drewN | apply below_drew1 | refine below_set ?_ GE176.out) | exact HB.out))))
                  have n2_ := Aside0.mk (blk_below (g := gb176) (o := .cells #[.int .i64 a0_0, .slice (some ad180) l0_1.length c0_1] 43 (0, 0)) (by (with_reducible repeat (first | refine blk_drewN ?_ _ | refine blk_drew ?_ | refine blk_alloc ?_ _)); exact BK176.out) hb)
                  have n3_ := Aside0.mk (Kd.C_below (by repeat (first | (with_reducible exact HR214.out) | (with_reducible refine Kd.C_alloc ?_ _) | (with_reducible refine Kd.C_drewN ?_ _) | (with_reducible refine Kd.C_drew ?_) | exact HR214.out)) hb)
                  have n4_ := Aside0.mk (below_step (by repeat (first | (with_reducible first | exact HB.out | apply below_alloc | apply pw_below_drewN | apply below_drew1 | refine below_set ?_ GE176.out) | exact HB.out)) hb)
                  clear HO_3
                  clear BK176
                  clear HR214
                  clear HB
                  have HO_3 := n0_
                  have HO210 := n1_
                  have BK176 := n2_
                  have HR214 := n3_
                  have HB := n4_
                  clear n0_ n1_ n2_ n3_ n4_
                  clear hb ho54
                  refine hK.out _ _ ⟨(blk_cell BK176.out 0).trans rfl, (blk_cell BK176.out 1).trans rfl, ((HB.out.cell (World.block_lt_of_cell? w _ hw218_0)).trans hw218_0), ((HB.out.cell (World.block_lt_of_cell? w _ hw218_1)).trans hw218_1), ((HB.out.cell (World.block_lt_of_cell? w _ hw218_2)).trans hw218_2), ((HB.out.cell (World.block_lt_of_cell? w _ hw218_3)).trans hw218_3)⟩ (fun hHeld => ?_)
                  clear hK K
                  refine norm_ (a' := ?_) ?_ ?_
                  rotate_left
                  ·show Act.put _ (some 42) _ = _
                   simp only [Act.put, sQ0, sQ1, sQ2, i64_w]
                   rfl
                  refine two_ (i := 4) (j := 10) (Ni := some 46) (Nj := some 52) #[tt,tt,tt,tt,tt,tt,tt,tt,tt,tt,ff,ff,ff] #[tt,tt,tt,tt,ff,tt,tt,tt,tt,tt,tt,ff,ff] rfl rfl rfl rfl (two_of HT_.out (by kernel_rfl)) (by decide) (by decide) (fun K hK => ?_) (fun K hK => ?_)
                  ·skip
                   refine Kd.R_append_rows_step k127 (w0 := w) w.heap.size (by rfl) (.tmp 42) (.tmp 45) 41 127 (.agg #[(.int .i64 0), (.int .i64 0), (.int .i64 0), (.int .i64 0)]) 32 rfl Try.underlying41 info127 rfl (by decide) (by omega) v209 y208 y211 _ _ _ (fun k_ => some k_ ≠ (.slice Ao50 x3_1.length co50 : Value).ownBlock) (fun _ => False) rfl rfl ?aO ?aR (fun _ _ h => h) (fun _ h => h.elim) ?aF ?aB ?aS ?aL ?_
                   (case aR => repeat (first | exact (by repeat (first | (with_reducible exact HR214.out) | (with_reducible refine Kd.C_alloc ?_ _) | (with_reducible refine Kd.C_drewN ?_ _) | (with_reducible refine Kd.C_drew ?_) | exact HR214.out)) | (with_reducible refine Kd.C_alloc ?_ _) | (with_reducible refine Kd.C_drewN ?_ _) | (with_reducible refine Kd.C_drew ?_)))
                   (case aB => exact (by repeat (first | (with_reducible first | exact HB.out | apply below_alloc | apply pw_below_drewN | apply below_drew1 | refine below_set ?_ GE176.out) | exact HB.out)))
                   (case aF => exact (fun k_ hk => Kd.fresh' (Kd.R_lt (by (with_reducible repeat (first | apply Kd.R_alloc | apply Kd.R_drewN | apply Kd.R_drew)); exact HO_3.out)) k_ hk))
                   (case aO => exact (by (with_reducible repeat (first | apply Kd.R_alloc | apply Kd.R_drewN | apply Kd.R_drew)); exact Kd.R_mono HO210.out (fun _ hk => hk.2)))
                   (case aS => exact (below_size (by repeat (first | (with_reducible first | exact HB.out | apply below_alloc | apply pw_below_drewN | apply below_drew1 | refine below_set ?_ GE176.out) | exact HB.out))))
                   (case aL => have := LMc42.out; omega)
                   intro v216 w55 ho hb hg hat
                   rw [← Ny215.out] at ho
                   have n0_ := Aside0.mk (Kd.R_after (ok := (fun _ => True)) (by (with_reducible repeat (first | apply Kd.R_alloc | apply Kd.R_drewN | apply Kd.R_drew)); exact HO_3.out) hg hat)
                   have n1_ := Aside0.mk (blk_grown (g := gb176) (o := .cells #[.int .i64 a0_0, .slice (some ad180) l0_1.length c0_1] 43 (0, 0)) (by (with_reducible repeat (first | refine blk_drewN ?_ _ | refine blk_drew ?_ | refine blk_alloc ?_ _)); exact BK176.out) hg (Kd.R_ne HO210.out BK176.out (by decide)))
                   have n2_ := Aside0.mk (hb)
                   have n3_ := Aside0.mk ((show Kd.C k127 w55 Ao50 y211.length y211 from by rw [Ny211.out]; exact Kd.C_take (m := (x5_2 : Int).toNat) ((Kd.R_reads' (Kd.R_after (ok := (fun _ => True)) (by (with_reducible repeat (first | apply Kd.R_alloc | apply Kd.R_drewN | apply Kd.R_drew)); exact HO_3.out) hg hat)).2.2) KL52.out))
                   have n4_ := Aside0.mk (ho)
                   clear HO_3
                   clear BK176
                   clear HB
                   clear HR214
                   clear HO210
                   have HO_3 := n0_
                   have BK176 := n1_
                   have HB := n2_
                   have HR214 := n3_
                   have HO217 := n4_
                   clear n0_ n1_ n2_ n3_ n4_
                   clear ho hb hg hat
                   refine hK.out _ _ ⟨(blk_cell BK176.out 0).trans rfl, (blk_cell BK176.out 1).trans rfl, ((HB.out.cell (World.block_lt_of_cell? w _ hw218_0)).trans hw218_0), ((HB.out.cell (World.block_lt_of_cell? w _ hw218_1)).trans hw218_1), ((HB.out.cell (World.block_lt_of_cell? w _ hw218_2)).trans hw218_2), ((HB.out.cell (World.block_lt_of_cell? w _ hw218_3)).trans hw218_3)⟩ (fun hHeld => ?_)
                   clear hK K
                   refine norm_ (a' := ?_) ?_ ?_
                   rotate_left
                   ·show Act.put _ (some 46) _ = _
                    simp only [Act.put, sQ0, sQ1, sQ2, i64_w]
                    rfl
                   refine one_ (i := 10) (N := some 52) #[tt,tt,tt,tt,tt,tt,tt,tt,tt,tt,tt,ff,ff] rfl rfl (one_of HT_.out (by kernel_rfl)) (by decide) (fun K hK => ?_)
                   refine Kd.R_lit_step k127 _ 127 ?hg (N := 52) ?hd (xs := ([(⟨(⟨(rd_T127 l0_1 x4_1).f0.f0, (rd_T127 l0_1 x4_1).f0.f1⟩ : S36), (rd_T127 l0_1 x4_1).f1, (rd_T127 l0_1 x4_1).f2⟩ : S127)] : List (S127))) (inner := [.int .i64 ((rd_T127 l0_1 x4_1).f0.f0), .int .i64 ((rd_T127 l0_1 x4_1).f0.f1), .int .i64 ((rd_T127 l0_1 x4_1).f1), .int .i64 ((rd_T127 l0_1 x4_1).f2)]) (ok := fun _ => True) (okp := fun _ => True) ?hr ?hp (fun _ hk => hk) trivial (Below.refl _ _) (Nat.le_refl _) (by simp) ?_; (case hd => rfl); (case hg => rfl); (case hr => first | (go_simp; done) | (go_simp; rfl)); (case hp => exact (Reps.c4 (show Kd.M k127 _ _ _ (⟨(⟨(rd_T127 l0_1 x4_1).f0.f0, (rd_T127 l0_1 x4_1).f0.f1⟩ : S36), (rd_T127 l0_1 x4_1).f1, (rd_T127 l0_1 x4_1).f2⟩ : S127) [.int .i64 ((rd_T127 l0_1 x4_1).f0.f0), .int .i64 ((rd_T127 l0_1 x4_1).f0.f1), .int .i64 ((rd_T127 l0_1 x4_1).f1), .int .i64 ((rd_T127 l0_1 x4_1).f2)] from (k127_mkM _ _ _ (⟨(⟨(rd_T127 l0_1 x4_1).f0.f0, (rd_T127 l0_1 x4_1).f0.f1⟩ : S36), (rd_T127 l0_1 x4_1).f1, (rd_T127 l0_1 x4_1).f2⟩ : S127) )) (Reps.none _ _)))
                   intro v220 w56 ho57 hb hg_ hnew_
                   clear hg_ hnew_
                   (first | rw [← Ny219.out] at ho57 | (simp only [Int.reduceToNat] at ho57; rw [← Ny219.out] at ho57))
                   have n0_ := Aside0.mk (Kd.R_elder' (by (with_reducible repeat (first | apply Kd.R_alloc | apply Kd.R_drewN | apply Kd.R_drew)); exact HO_3.out) (Kd.R_base ho57) hb)
                   have n1_ := Aside0.mk (Kd.R_elder' (by (with_reducible repeat (first | apply Kd.R_alloc | apply Kd.R_drewN | apply Kd.R_drew)); exact HO217.out) (Kd.R_base ho57) hb)
                   have n2_ := Aside0.mk (Kd.R_lower (Kd.R_new' (Kd.R_new' ho57 (Kd.R_lt (by (with_reducible repeat (first | apply Kd.R_alloc | apply Kd.R_drewN | apply Kd.R_drew)); exact HO_3.out))) (Kd.R_lt (by (with_reducible repeat (first | apply Kd.R_alloc | apply Kd.R_drewN | apply Kd.R_drew)); exact HO217.out))) (below_size (by repeat (first | (with_reducible first | exact HB.out | apply below_alloc | apply pw_below_drewN | apply below_drew1 | refine below_set ?_ GE176.out) | exact HB.out))))
                   have n3_ := Aside0.mk (blk_below (g := gb176) (o := .cells #[.int .i64 a0_0, .slice (some ad180) l0_1.length c0_1] 43 (0, 0)) (by (with_reducible repeat (first | refine blk_drewN ?_ _ | refine blk_drew ?_ | refine blk_alloc ?_ _)); exact BK176.out) hb)
                   have n4_ := Aside0.mk (Kd.C_below (by repeat (first | (with_reducible exact HR214.out) | (with_reducible refine Kd.C_alloc ?_ _) | (with_reducible refine Kd.C_drewN ?_ _) | (with_reducible refine Kd.C_drew ?_) | exact HR214.out)) hb)
                   have n5_ := Aside0.mk (below_step (by repeat (first | (with_reducible first | exact HB.out | apply below_alloc | apply pw_below_drewN | apply below_drew1 | refine below_set ?_ GE176.out) | exact HB.out)) hb)
                   clear HO_3
                   clear HO217
                   clear BK176
                   clear HR214
                   clear HB
                   have HO_3 := n0_
                   have HO217 := n1_
                   have HO221 := n2_
                   have BK176 := n3_
                   have HR214 := n4_
                   have HB := n5_
                   clear n0_ n1_ n2_ n3_ n4_ n5_
                   clear hb ho57
                   refine hK.out _ _ ⟨(blk_cell BK176.out 0).trans rfl, (blk_cell BK176.out 1).trans rfl, ((HB.out.cell (World.block_lt_of_cell? w _ hw218_0)).trans hw218_0), ((HB.out.cell (World.block_lt_of_cell? w _ hw218_1)).trans hw218_1), ((HB.out.cell (World.block_lt_of_cell? w _ hw218_2)).trans hw218_2), ((HB.out.cell (World.block_lt_of_cell? w _ hw218_3)).trans hw218_3)⟩ (fun hHeld => ?_)
                   clear hK K
                   refine norm_ (a' := ?_) ?_ ?_
                   rotate_left
                   ·show Act.put _ (some 52) _ = _
                    simp only [Act.put, sQ0, sQ1, sQ2, i64_w]
                    rfl
                   exact norm_ (by simp only [putAll, Act.put, sQ0, sQ1, sQ2]) (hCont (v209, v216, v220) _ ⟨hHeld, (by (with_reducible repeat (first | apply Kd.R_alloc | apply Kd.R_drewN | apply Kd.R_drew)); exact Kd.R_mono HO217.out (fun _ hk => ⟨hk.2, hk.1⟩)), (by (with_reducible repeat (first | apply Kd.R_alloc | apply Kd.R_drewN | apply Kd.R_drew)); exact Kd.R_mono HO221.out (fun _ hk => ⟨hk.2, hk.1.2⟩)), (by (with_reducible repeat (first | apply Kd.R_alloc | apply Kd.R_drewN | apply Kd.R_drew)); exact Kd.R_mono HO_3.out (fun _ hk => ⟨hk.1.2, hk.2⟩)), (by (with_reducible repeat (first | refine blk_drewN ?_ _ | refine blk_drew ?_ | refine blk_alloc ?_ _)); exact BK176.out), (by repeat (first | (with_reducible first | exact HB.out | apply below_alloc | apply pw_below_drewN | apply below_drew1 | refine below_set ?_ GE176.out) | exact HB.out))⟩)
                  ·skip
                   refine Kd.R_lit_step k127 _ 127 ?hg (N := 52) ?hd (xs := ([(⟨(⟨(rd_T127 l0_1 x4_1).f0.f0, (rd_T127 l0_1 x4_1).f0.f1⟩ : S36), (rd_T127 l0_1 x4_1).f1, (rd_T127 l0_1 x4_1).f2⟩ : S127)] : List (S127))) (inner := [.int .i64 ((rd_T127 l0_1 x4_1).f0.f0), .int .i64 ((rd_T127 l0_1 x4_1).f0.f1), .int .i64 ((rd_T127 l0_1 x4_1).f1), .int .i64 ((rd_T127 l0_1 x4_1).f2)]) (ok := fun _ => True) (okp := fun _ => True) ?hr ?hp (fun _ hk => hk) trivial (Below.refl _ _) (Nat.le_refl _) (by simp) ?_; (case hd => rfl); (case hg => rfl); (case hr => first | (go_simp; done) | (go_simp; rfl)); (case hp => exact (Reps.c4 (show Kd.M k127 _ _ _ (⟨(⟨(rd_T127 l0_1 x4_1).f0.f0, (rd_T127 l0_1 x4_1).f0.f1⟩ : S36), (rd_T127 l0_1 x4_1).f1, (rd_T127 l0_1 x4_1).f2⟩ : S127) [.int .i64 ((rd_T127 l0_1 x4_1).f0.f0), .int .i64 ((rd_T127 l0_1 x4_1).f0.f1), .int .i64 ((rd_T127 l0_1 x4_1).f1), .int .i64 ((rd_T127 l0_1 x4_1).f2)] from (k127_mkM _ _ _ (⟨(⟨(rd_T127 l0_1 x4_1).f0.f0, (rd_T127 l0_1 x4_1).f0.f1⟩ : S36), (rd_T127 l0_1 x4_1).f1, (rd_T127 l0_1 x4_1).f2⟩ : S127) )) (Reps.none _ _)))
                   intro v220 w55 ho56 hb hg_ hnew_
                   clear hg_ hnew_
                   (first | rw [← Ny219.out] at ho56 | (simp only [Int.reduceToNat] at ho56; rw [← Ny219.out] at ho56))
                   have n0_ := Aside0.mk (Kd.R_elder' (by (with_reducible repeat (first | apply Kd.R_alloc | apply Kd.R_drewN | apply Kd.R_drew)); exact HO_3.out) (Kd.R_base ho56) hb)
                   have n1_ := Aside0.mk (Kd.R_elder' (by (with_reducible repeat (first | apply Kd.R_alloc | apply Kd.R_drewN | apply Kd.R_drew)); exact HO210.out) (Kd.R_base ho56) hb)
                   have n2_ := Aside0.mk (Kd.R_lower (Kd.R_new' (Kd.R_new' ho56 (Kd.R_lt (by (with_reducible repeat (first | apply Kd.R_alloc | apply Kd.R_drewN | apply Kd.R_drew)); exact HO_3.out))) (Kd.R_lt (by (with_reducible repeat (first | apply Kd.R_alloc | apply Kd.R_drewN | apply Kd.R_drew)); exact HO210.out))) (below_size (by repeat (first | (with_reducible first | exact HB.out | apply below_alloc | apply pw_below_drewN | apply below_drew1 | refine below_set ?_ GE176.out) | exact HB.out))))
                   have n3_ := Aside0.mk (blk_below (g := gb176) (o := .cells #[.int .i64 a0_0, .slice (some ad180) l0_1.length c0_1] 43 (0, 0)) (by (with_reducible repeat (first | refine blk_drewN ?_ _ | refine blk_drew ?_ | refine blk_alloc ?_ _)); exact BK176.out) hb)
                   have n4_ := Aside0.mk (Kd.C_below (by repeat (first | (with_reducible exact HR214.out) | (with_reducible refine Kd.C_alloc ?_ _) | (with_reducible refine Kd.C_drewN ?_ _) | (with_reducible refine Kd.C_drew ?_) | exact HR214.out)) hb)
                   have n5_ := Aside0.mk (below_step (by repeat (first | (with_reducible first | exact HB.out | apply below_alloc | apply pw_below_drewN | apply below_drew1 | refine below_set ?_ GE176.out) | exact HB.out)) hb)
                   clear HO_3
                   clear HO210
                   clear BK176
                   clear HR214
                   clear HB
                   have HO_3 := n0_
                   have HO210 := n1_
                   have HO221 := n2_
                   have BK176 := n3_
                   have HR214 := n4_
                   have HB := n5_
                   clear n0_ n1_ n2_ n3_ n4_ n5_
                   clear hb ho56
                   refine hK.out _ _ ⟨(blk_cell BK176.out 0).trans rfl, (blk_cell BK176.out 1).trans rfl, ((HB.out.cell (World.block_lt_of_cell? w _ hw218_0)).trans hw218_0), ((HB.out.cell (World.block_lt_of_cell? w _ hw218_1)).trans hw218_1), ((HB.out.cell (World.block_lt_of_cell? w _ hw218_2)).trans hw218_2), ((HB.out.cell (World.block_lt_of_cell? w _ hw218_3)).trans hw218_3)⟩ (fun hHeld => ?_)
                   clear hK K
                   refine norm_ (a' := ?_) ?_ ?_
                   rotate_left
                   ·show Act.put _ (some 52) _ = _
                    simp only [Act.put, sQ0, sQ1, sQ2, i64_w]
                    rfl
                   refine one_ (i := 4) (N := some 46) #[tt,tt,tt,tt,tt,tt,tt,tt,tt,tt,tt,ff,ff] rfl rfl (one_of HT_.out (by kernel_rfl)) (by decide) (fun K hK => ?_)
                   refine Kd.R_append_rows_step k127 (w0 := w) w.heap.size (by rfl) (.tmp 42) (.tmp 45) 41 127 (.agg #[(.int .i64 0), (.int .i64 0), (.int .i64 0), (.int .i64 0)]) 32 rfl Try.underlying41 info127 rfl (by decide) (by omega) v209 y208 y211 _ _ _ (fun k_ => some k_ ≠ (.slice Ao50 x3_1.length co50 : Value).ownBlock ∧ some k_ ≠ (v220 : Value).ownBlock) (fun _ => False) rfl rfl ?aO ?aR (fun _ _ h => h) (fun _ h => h.elim) ?aF ?aB ?aS ?aL ?_
                   (case aR => repeat (first | exact (by repeat (first | (with_reducible exact HR214.out) | (with_reducible refine Kd.C_alloc ?_ _) | (with_reducible refine Kd.C_drewN ?_ _) | (with_reducible refine Kd.C_drew ?_) | exact HR214.out)) | (with_reducible refine Kd.C_alloc ?_ _) | (with_reducible refine Kd.C_drewN ?_ _) | (with_reducible refine Kd.C_drew ?_)))
                   (case aB => exact (by repeat (first | (with_reducible first | exact HB.out | apply below_alloc | apply pw_below_drewN | apply below_drew1 | refine below_set ?_ GE176.out) | exact HB.out)))
                   (case aF => exact (fun k_ hk => ⟨Kd.fresh' (Kd.R_lt (by (with_reducible repeat (first | apply Kd.R_alloc | apply Kd.R_drewN | apply Kd.R_drew)); exact HO_3.out)) k_ hk, Kd.fresh' (Kd.R_lt (by (with_reducible repeat (first | apply Kd.R_alloc | apply Kd.R_drewN | apply Kd.R_drew)); exact HO221.out)) k_ hk⟩))
                   (case aO => exact (by (with_reducible repeat (first | apply Kd.R_alloc | apply Kd.R_drewN | apply Kd.R_drew)); exact Kd.R_mono HO210.out (fun _ hk => ⟨hk.1.2, hk.2⟩)))
                   (case aS => exact (below_size (by repeat (first | (with_reducible first | exact HB.out | apply below_alloc | apply pw_below_drewN | apply below_drew1 | refine below_set ?_ GE176.out) | exact HB.out))))
                   (case aL => have := LMc42.out; omega)
                   intro v216 w57 ho hb hg hat
                   rw [← Ny215.out] at ho
                   have n0_ := Aside0.mk (Kd.R_after (ok := (fun k_ => some k_ ≠ (v220 : Value).ownBlock)) (by (with_reducible repeat (first | apply Kd.R_alloc | apply Kd.R_drewN | apply Kd.R_drew)); exact Kd.R_mono HO_3.out (fun _ hk => ⟨hk.2, hk.1.2⟩)) hg hat)
                   have n1_ := Aside0.mk (blk_grown (g := gb176) (o := .cells #[.int .i64 a0_0, .slice (some ad180) l0_1.length c0_1] 43 (0, 0)) (by (with_reducible repeat (first | refine blk_drewN ?_ _ | refine blk_drew ?_ | refine blk_alloc ?_ _)); exact BK176.out) hg (Kd.R_ne HO210.out BK176.out (by decide)))
                   have n2_ := Aside0.mk (Kd.R_after (ok := (fun k_ => some k_ ≠ (.slice Ao50 x3_1.length co50 : Value).ownBlock)) (by (with_reducible repeat (first | apply Kd.R_alloc | apply Kd.R_drewN | apply Kd.R_drew)); exact Kd.R_mono HO221.out (fun _ hk => ⟨hk.1.2, hk.2⟩)) hg hat)
                   have n3_ := Aside0.mk (hb)
                   have n4_ := Aside0.mk ((show Kd.C k127 w57 Ao50 y211.length y211 from by rw [Ny211.out]; exact Kd.C_take (m := (x5_2 : Int).toNat) ((Kd.R_reads' (Kd.R_after (ok := (fun k_ => some k_ ≠ (v220 : Value).ownBlock)) (by (with_reducible repeat (first | apply Kd.R_alloc | apply Kd.R_drewN | apply Kd.R_drew)); exact Kd.R_mono HO_3.out (fun _ hk => ⟨hk.2, hk.1.2⟩)) hg hat)).2.2) KL52.out))
                   have n5_ := Aside0.mk (ho)
                   clear HO_3
                   clear BK176
                   clear HO221
                   clear HB
                   clear HR214
                   clear HO210
                   have HO_3 := n0_
                   have BK176 := n1_
                   have HO221 := n2_
                   have HB := n3_
                   have HR214 := n4_
                   have HO217 := n5_
                   clear n0_ n1_ n2_ n3_ n4_ n5_
                   clear ho hb hg hat
                   refine hK.out _ _ ⟨(blk_cell BK176.out 0).trans rfl, (blk_cell BK176.out 1).trans rfl, ((HB.out.cell (World.block_lt_of_cell? w _ hw218_0)).trans hw218_0), ((HB.out.cell (World.block_lt_of_cell? w _ hw218_1)).trans hw218_1), ((HB.out.cell (World.block_lt_of_cell? w _ hw218_2)).trans hw218_2), ((HB.out.cell (World.block_lt_of_cell? w _ hw218_3)).trans hw218_3)⟩ (fun hHeld => ?_)
                   clear hK K
                   refine norm_ (a' := ?_) ?_ ?_
                   rotate_left
                   ·show Act.put _ (some 46) _ = _
                    simp only [Act.put, sQ0, sQ1, sQ2, i64_w]
                    rfl
                   exact norm_ (by simp only [putAll, Act.put, sQ0, sQ1, sQ2]) (hCont (v209, v216, v220) _ ⟨hHeld, (by (with_reducible repeat (first | apply Kd.R_alloc | apply Kd.R_drewN | apply Kd.R_drew)); exact Kd.R_mono HO217.out (fun _ hk => ⟨hk.2, hk.1⟩)), (by (with_reducible repeat (first | apply Kd.R_alloc | apply Kd.R_drewN | apply Kd.R_drew)); exact Kd.R_mono HO221.out (fun _ hk => ⟨hk.2, hk.1⟩)), (by (with_reducible repeat (first | apply Kd.R_alloc | apply Kd.R_drewN | apply Kd.R_drew)); exact Kd.R_mono HO_3.out (fun _ hk => ⟨hk.2, hk.1⟩)), (by (with_reducible repeat (first | refine blk_drewN ?_ _ | refine blk_drew ?_ | refine blk_alloc ?_ _)); exact BK176.out), (by repeat (first | (with_reducible first | exact HB.out | apply below_alloc | apply pw_below_drewN | apply below_drew1 | refine below_set ?_ GE176.out) | exact HB.out))⟩)
                 ·skip
                  refine Kd.R_lit_step k127 _ 127 ?hg (N := 52) ?hd (xs := ([(⟨(⟨(rd_T127 l0_1 x4_1).f0.f0, (rd_T127 l0_1 x4_1).f0.f1⟩ : S36), (rd_T127 l0_1 x4_1).f1, (rd_T127 l0_1 x4_1).f2⟩ : S127)] : List (S127))) (inner := [.int .i64 ((rd_T127 l0_1 x4_1).f0.f0), .int .i64 ((rd_T127 l0_1 x4_1).f0.f1), .int .i64 ((rd_T127 l0_1 x4_1).f1), .int .i64 ((rd_T127 l0_1 x4_1).f2)]) (ok := fun _ => True) (okp := fun _ => True) ?hr ?hp (fun _ hk => hk) trivial (Below.refl _ _) (Nat.le_refl _) (by simp) ?_; (case hd => rfl); (case hg => rfl); (case hr => first | (go_simp; done) | (go_simp; rfl)); (case hp => exact (Reps.c4 (show Kd.M k127 _ _ _ (⟨(⟨(rd_T127 l0_1 x4_1).f0.f0, (rd_T127 l0_1 x4_1).f0.f1⟩ : S36), (rd_T127 l0_1 x4_1).f1, (rd_T127 l0_1 x4_1).f2⟩ : S127) [.int .i64 ((rd_T127 l0_1 x4_1).f0.f0), .int .i64 ((rd_T127 l0_1 x4_1).f0.f1), .int .i64 ((rd_T127 l0_1 x4_1).f1), .int .i64 ((rd_T127 l0_1 x4_1).f2)] from (k127_mkM _ _ _ (⟨(⟨(rd_T127 l0_1 x4_1).f0.f0, (rd_T127 l0_1 x4_1).f0.f1⟩ : S36), (rd_T127 l0_1 x4_1).f1, (rd_T127 l0_1 x4_1).f2⟩ : S127) )) (Reps.none _ _)))
                  intro v220 w53 ho54 hb hg_ hnew_
                  clear hg_ hnew_
                  (first | rw [← Ny219.out] at ho54 | (simp only [Int.reduceToNat] at ho54; rw [← Ny219.out] at ho54))
                  have n0_ := Aside0.mk (Kd.R_elder' (by (with_reducible repeat (first | apply Kd.R_alloc | apply Kd.R_drewN | apply Kd.R_drew)); exact HO_3.out) (Kd.R_base ho54) hb)
                  have n1_ := Aside0.mk (Kd.R_lower (Kd.R_new' ho54 (Kd.R_lt (by (with_reducible repeat (first | apply Kd.R_alloc | apply Kd.R_drewN | apply Kd.R_drew)); exact HO_3.out))) (below_size (by repeat (first | (with_reducible first | exact HB.out | apply below_alloc | apply pw_below_drewN | apply below_drew1 | refine below_set ?_ GE176.out) | exact HB.out))))
                  have n2_ := Aside0.mk (blk_below (g := gb176) (o := .cells #[.int .i64 a0_0, .slice (some ad180) l0_1.length c0_1] 43 (0, 0)) (by (with_reducible repeat (first | refine blk_drewN ?_ _ | refine blk_drew ?_ | refine blk_alloc ?_ _)); exact BK176.out) hb)
                  have n3_ := Aside0.mk (Kd.C_below (by repeat (first | (with_reducible exact HR214.out) | (with_reducible refine Kd.C_alloc ?_ _) | (with_reducible refine Kd.C_drewN ?_ _) | (with_reducible refine Kd.C_drew ?_) | exact HR214.out)) hb)
                  have n4_ := Aside0.mk (below_step (by repeat (first | (with_reducible first | exact HB.out | apply below_alloc | apply pw_below_drewN | apply below_drew1 | refine below_set ?_ GE176.out) | exact HB.out)) hb)
                  clear HO_3
                  clear BK176
                  clear HR214
                  clear HB
                  have HO_3 := n0_
                  have HO221 := n1_
                  have BK176 := n2_
                  have HR214 := n3_
                  have HB := n4_
                  clear n0_ n1_ n2_ n3_ n4_
                  clear hb ho54
                  refine hK.out _ _ ⟨(blk_cell BK176.out 0).trans rfl, (blk_cell BK176.out 1).trans rfl, ((HB.out.cell (World.block_lt_of_cell? w _ hw218_0)).trans hw218_0), ((HB.out.cell (World.block_lt_of_cell? w _ hw218_1)).trans hw218_1), ((HB.out.cell (World.block_lt_of_cell? w _ hw218_2)).trans hw218_2), ((HB.out.cell (World.block_lt_of_cell? w _ hw218_3)).trans hw218_3)⟩ (fun hHeld => ?_)
                  clear hK K
                  refine norm_ (a' := ?_) ?_ ?_
                  rotate_left
                  ·show Act.put _ (some 52) _ = _
                   simp only [Act.put, sQ0, sQ1, sQ2, i64_w]
                   rfl
                  refine one_ (i := 0) (N := some 42) #[tt,tt,tt,tt,ff,tt,tt,tt,tt,tt,tt,ff,ff] rfl rfl (one_of HT_.out (by kernel_rfl)) (by decide) (fun K hK => ?_)
                  refine Kd.R_lit_step k127 _ 127 ?hg (N := 42) ?hd (xs := ([] : List (S127))) (inner := []) (ok := fun _ => True) (okp := fun _ => True) ?hr ?hp (fun _ hk => hk) trivial (Below.refl _ _) (Nat.le_refl _) (by simp) ?_; (case hd => rfl); (case hg => rfl); (case hr => first | (go_simp; done) | (go_simp; rfl)); (case hp => exact (Reps.none _ _))
                  intro v209 w55 ho56 hb hg_ hnew_
                  clear hg_ hnew_
                  (first | rw [← Ny208.out] at ho56 | (simp only [Int.reduceToNat] at ho56; rw [← Ny208.out] at ho56))
                  have n0_ := Aside0.mk (Kd.R_elder' (by (with_reducible repeat (first | apply Kd.R_alloc | apply Kd.R_drewN | apply Kd.R_drew)); exact HO_3.out) (Kd.R_base ho56) hb)
                  have n1_ := Aside0.mk (Kd.R_elder' (by (with_reducible repeat (first | apply Kd.R_alloc | apply Kd.R_drewN | apply Kd.R_drew)); exact HO221.out) (Kd.R_base ho56) hb)
                  have n2_ := Aside0.mk (Kd.R_lower (Kd.R_new' (Kd.R_new' ho56 (Kd.R_lt (by (with_reducible repeat (first | apply Kd.R_alloc | apply Kd.R_drewN | apply Kd.R_drew)); exact HO_3.out))) (Kd.R_lt (by (with_reducible repeat (first | apply Kd.R_alloc | apply Kd.R_drewN | apply Kd.R_drew)); exact HO221.out))) (below_size (by repeat (first | (with_reducible first | exact HB.out | apply below_alloc | apply pw_below_drewN | apply below_drew1 | refine below_set ?_ GE176.out) | exact HB.out))))
                  have n3_ := Aside0.mk (blk_below (g := gb176) (o := .cells #[.int .i64 a0_0, .slice (some ad180) l0_1.length c0_1] 43 (0, 0)) (by (with_reducible repeat (first | refine blk_drewN ?_ _ | refine blk_drew ?_ | refine blk_alloc ?_ _)); exact BK176.out) hb)
                  have n4_ := Aside0.mk (Kd.C_below (by repeat (first | (with_reducible exact HR214.out) | (with_reducible refine Kd.C_alloc ?_ _) | (with_reducible refine Kd.C_drewN ?_ _) | (with_reducible refine Kd.C_drew ?_) | exact HR214.out)) hb)
                  have n5_ := Aside0.mk (below_step (by repeat (first | (with_reducible first | exact HB.out | apply below_alloc | apply pw_below_drewN | apply below_drew1 | refine below_set ?_ GE176.out) | exact HB.out)) hb)
                  clear HO_3
                  clear HO221
                  clear BK176
                  clear HR214
                  clear HB
                  have HO_3 := n0_
                  have HO221 := n1_
                  have HO210 := n2_
                  have BK176 := n3_
                  have HR214 := n4_
                  have HB := n5_
                  clear n0_ n1_ n2_ n3_ n4_ n5_
                  clear hb ho56
                  refine hK.out _ _ ⟨(blk_cell BK176.out 0).trans rfl, (blk_cell BK176.out 1).trans rfl, ((HB.out.cell (World.block_lt_of_cell? w _ hw218_0)).trans hw218_0), ((HB.out.cell (World.block_lt_of_cell? w _ hw218_1)).trans hw218_1), ((HB.out.cell (World.block_lt_of_cell? w _ hw218_2)).trans hw218_2), ((HB.out.cell (World.block_lt_of_cell? w _ hw218_3)).trans hw218_3)⟩ (fun hHeld => ?_)
                  clear hK K
                  refine norm_ (a' := ?_) ?_ ?_
                  rotate_left
                  ·show Act.put _ (some 42) _ = _
                   simp only [Act.put, sQ0, sQ1, sQ2, i64_w]
                   rfl
                  refine one_ (i := 4) (N := some 46) #[tt,tt,tt,tt,tt,tt,tt,tt,tt,tt,tt,ff,ff] rfl rfl (one_of HT_.out (by kernel_rfl)) (by decide) (fun K hK => ?_)
                  refine Kd.R_append_rows_step k127 (w0 := w) w.heap.size (by rfl) (.tmp 42) (.tmp 45) 41 127 (.agg #[(.int .i64 0), (.int .i64 0), (.int .i64 0), (.int .i64 0)]) 32 rfl Try.underlying41 info127 rfl (by decide) (by omega) v209 y208 y211 _ _ _ (fun k_ => some k_ ≠ (.slice Ao50 x3_1.length co50 : Value).ownBlock ∧ some k_ ≠ (v220 : Value).ownBlock) (fun _ => False) rfl rfl ?aO ?aR (fun _ _ h => h) (fun _ h => h.elim) ?aF ?aB ?aS ?aL ?_
                  (case aR => repeat (first | exact (by repeat (first | (with_reducible exact HR214.out) | (with_reducible refine Kd.C_alloc ?_ _) | (with_reducible refine Kd.C_drewN ?_ _) | (with_reducible refine Kd.C_drew ?_) | exact HR214.out)) | (with_reducible refine Kd.C_alloc ?_ _) | (with_reducible refine Kd.C_drewN ?_ _) | (with_reducible refine Kd.C_drew ?_)))
                  (case aB => exact (by repeat (first | (with_reducible first | exact HB.out | apply below_alloc | apply pw_below_drewN | apply below_drew1 | refine below_set ?_ GE176.out) | exact HB.out)))
                  (case aF => exact (fun k_ hk => ⟨Kd.fresh' (Kd.R_lt (by (with_reducible repeat (first | apply Kd.R_alloc | apply Kd.R_drewN | apply Kd.R_drew)); exact HO_3.out)) k_ hk, Kd.fresh' (Kd.R_lt (by (with_reducible repeat (first | apply Kd.R_alloc | apply Kd.R_drewN | apply Kd.R_drew)); exact HO221.out)) k_ hk⟩))
                  (case aO => exact (by (with_reducible repeat (first | apply Kd.R_alloc | apply Kd.R_drewN | apply Kd.R_drew)); exact Kd.R_mono HO210.out (fun _ hk => ⟨hk.1.2, hk.2⟩)))
                  (case aS => exact (below_size (by repeat (first | (with_reducible first | exact HB.out | apply below_alloc | apply pw_below_drewN | apply below_drew1 | refine below_set ?_ GE176.out) | exact HB.out))))
                  (case aL => have := LMc42.out; omega)
                  intro v216 w57 ho hb hg hat
                  rw [← Ny215.out] at ho
                  have n0_ := Aside0.mk (Kd.R_after (ok := (fun k_ => some k_ ≠ (v220 : Value).ownBlock)) (by (with_reducible repeat (first | apply Kd.R_alloc | apply Kd.R_drewN | apply Kd.R_drew)); exact Kd.R_mono HO_3.out (fun _ hk => ⟨hk.1.2, hk.2⟩)) hg hat)
                  have n1_ := Aside0.mk (blk_grown (g := gb176) (o := .cells #[.int .i64 a0_0, .slice (some ad180) l0_1.length c0_1] 43 (0, 0)) (by (with_reducible repeat (first | refine blk_drewN ?_ _ | refine blk_drew ?_ | refine blk_alloc ?_ _)); exact BK176.out) hg (Kd.R_ne HO210.out BK176.out (by decide)))
                  have n2_ := Aside0.mk (Kd.R_after (ok := (fun k_ => some k_ ≠ (.slice Ao50 x3_1.length co50 : Value).ownBlock)) (by (with_reducible repeat (first | apply Kd.R_alloc | apply Kd.R_drewN | apply Kd.R_drew)); exact Kd.R_mono HO221.out (fun _ hk => ⟨hk.1.2, hk.2⟩)) hg hat)
                  have n3_ := Aside0.mk (hb)
                  have n4_ := Aside0.mk ((show Kd.C k127 w57 Ao50 y211.length y211 from by rw [Ny211.out]; exact Kd.C_take (m := (x5_2 : Int).toNat) ((Kd.R_reads' (Kd.R_after (ok := (fun k_ => some k_ ≠ (v220 : Value).ownBlock)) (by (with_reducible repeat (first | apply Kd.R_alloc | apply Kd.R_drewN | apply Kd.R_drew)); exact Kd.R_mono HO_3.out (fun _ hk => ⟨hk.1.2, hk.2⟩)) hg hat)).2.2) KL52.out))
                  have n5_ := Aside0.mk (ho)
                  clear HO_3
                  clear BK176
                  clear HO221
                  clear HB
                  clear HR214
                  clear HO210
                  have HO_3 := n0_
                  have BK176 := n1_
                  have HO221 := n2_
                  have HB := n3_
                  have HR214 := n4_
                  have HO217 := n5_
                  clear n0_ n1_ n2_ n3_ n4_ n5_
                  clear ho hb hg hat
                  refine hK.out _ _ ⟨(blk_cell BK176.out 0).trans rfl, (blk_cell BK176.out 1).trans rfl, ((HB.out.cell (World.block_lt_of_cell? w _ hw218_0)).trans hw218_0), ((HB.out.cell (World.block_lt_of_cell? w _ hw218_1)).trans hw218_1), ((HB.out.cell (World.block_lt_of_cell? w _ hw218_2)).trans hw218_2), ((HB.out.cell (World.block_lt_of_cell? w _ hw218_3)).trans hw218_3)⟩ (fun hHeld => ?_)
                  clear hK K
                  refine norm_ (a' := ?_) ?_ ?_
                  rotate_left
                  ·show Act.put _ (some 46) _ = _
                   simp only [Act.put, sQ0, sQ1, sQ2, i64_w]
                   rfl
                  exact norm_ (by simp only [putAll, Act.put, sQ0, sQ1, sQ2]) (hCont (v209, v216, v220) _ ⟨hHeld, (by (with_reducible repeat (first | apply Kd.R_alloc | apply Kd.R_drewN | apply Kd.R_drew)); exact Kd.R_mono HO217.out (fun _ hk => ⟨hk.2, hk.1⟩)), (by (with_reducible repeat (first | apply Kd.R_alloc | apply Kd.R_drewN | apply Kd.R_drew)); exact Kd.R_mono HO221.out (fun _ hk => ⟨hk.2, hk.1⟩)), (by (with_reducible repeat (first | apply Kd.R_alloc | apply Kd.R_drewN | apply Kd.R_drew)); exact Kd.R_mono HO_3.out (fun _ hk => ⟨hk.2, hk.1⟩)), (by (with_reducible repeat (first | refine blk_drewN ?_ _ | refine blk_drew ?_ | refine blk_alloc ?_ _)); exact BK176.out), (by repeat (first | (with_reducible first | exact HB.out | apply below_alloc | apply pw_below_drewN | apply below_drew1 | refine below_set ?_ GE176.out) | exact HB.out))⟩)
                rintro ⟨v209, v216, v220⟩ w58 ⟨hS_, h0_, h1_, h2_, h3_, h4_⟩
                have n0_ : Aside0 (Kd.R k127 127 w58 w.heap.size (fun k_ => some k_ ≠ (v220 : Value).ownBlock ∧ some k_ ≠ (.slice Ao50 x3_1.length co50 : Value).ownBlock) v216 y215) := ⟨h0_⟩
                have n1_ : Aside0 (Kd.R k127 127 w58 w.heap.size (fun k_ => some k_ ≠ (v216 : Value).ownBlock ∧ some k_ ≠ (.slice Ao50 x3_1.length co50 : Value).ownBlock) v220 y219) := ⟨h1_⟩
                have n2_ : Aside0 (Kd.R k127 127 w58 w.heap.size (fun k_ => some k_ ≠ (v216 : Value).ownBlock ∧ some k_ ≠ (v220 : Value).ownBlock) (.slice Ao50 x3_1.length co50) x3_1) := ⟨h2_⟩
                have n3_ : Aside0 (w58.heap[gb176]? = some (.cells #[.int .i64 a0_0, .slice (some ad180) l0_1.length c0_1] 43 (0, 0))) := ⟨h3_⟩
                have n4_ : Aside0 (Below w.heap.size w w58) := ⟨h4_⟩
                clear HO_3
                clear BK176
                clear HB
                clear h0_ h1_ h2_ h3_ h4_
                have HO217 := n0_
                have HO221 := n1_
                have HO_3 := n2_
                have BK176 := n3_
                have HB := n4_
                clear n0_ n1_ n2_ n3_ n4_
                have hHeld : w58.cell? ⟨gb176, 0, none⟩ = some (.int .i64 a0_0) ∧ w58.cell? ⟨gb176, 1, none⟩ = some (.slice (some ad180) l0_1.length c0_1) ∧ w58.cell? (ad180.add ((x4_1).toNat * 4)) = some (.int .i64 ((rd_T127 l0_1 x4_1).f0.f0)) ∧ w58.cell? ⟨(ad180.add ((x4_1).toNat * 4)).block, (ad180.add ((x4_1).toNat * 4)).off + 1, none⟩ = some (.int .i64 ((rd_T127 l0_1 x4_1).f0.f1)) ∧ w58.cell? ⟨(ad180.add ((x4_1).toNat * 4)).block, (ad180.add ((x4_1).toNat * 4)).off + 2, none⟩ = some (.int .i64 ((rd_T127 l0_1 x4_1).f1)) ∧ w58.cell? ⟨(ad180.add ((x4_1).toNat * 4)).block, (ad180.add ((x4_1).toNat * 4)).off + 3, none⟩ = some (.int .i64 ((rd_T127 l0_1 x4_1).f2)) := hS_
                obtain ⟨Ao60, co60, eo60⟩ := Kd.R_slice HO221.out
                (first | subst eo60 | (injection eo60 with f1_ f2_ f3_; have f4_ := f1_.symm; have f5_ := f3_.symm; clear f1_ f2_ f3_; subst f4_; subst f5_))
                refine norm_ (a' := ?_) ?_ ?_
                rotate_left
                ·simp only [putAll, Act.put, sQ0, sQ1, sQ2]
                 rfl
                refine one_ (i := 11) (N := some 53) #[tt,tt,tt,tt,tt,tt,tt,tt,tt,tt,tt,tt,ff] rfl rfl (one_of HT_.out (by kernel_rfl)) (by decide) (fun K hK => ?_)
                refine Kd.R_append_rows_step k127 (w0 := w) w.heap.size (by rfl) (.tmp 46) (.tmp 52) 41 127 (.agg #[(.int .i64 0), (.int .i64 0), (.int .i64 0), (.int .i64 0)]) 32 rfl Try.underlying41 info127 rfl (by decide) (by omega) v216 y215 y219 _ _ _ (fun k_ => some k_ ≠ (.slice Ao50 x3_1.length co50 : Value).ownBlock ∧ some k_ ≠ (.slice Ao60 y219.length co60 : Value).ownBlock) (fun _ => False) rfl rfl ?aO ?aR (fun _ _ h => h) (fun _ h => h.elim) ?aF ?aB ?aS ?aL ?_
                (case aR => repeat (first | exact (Kd.R_reads' HO221.out).2.2 | (with_reducible refine Kd.C_alloc ?_ _) | (with_reducible refine Kd.C_drewN ?_ _) | (with_reducible refine Kd.C_drew ?_)))
                (case aB => exact (by repeat (first | (with_reducible first | exact HB.out | apply below_alloc | apply pw_below_drewN | apply below_drew1 | refine below_set ?_ GE176.out) | exact HB.out)))
                (case aF => exact (fun k_ hk => ⟨Kd.fresh' (Kd.R_lt (by (with_reducible repeat (first | apply Kd.R_alloc | apply Kd.R_drewN | apply Kd.R_drew)); exact HO_3.out)) k_ hk, Kd.fresh' (Kd.R_lt (by (with_reducible repeat (first | apply Kd.R_alloc | apply Kd.R_drewN | apply Kd.R_drew)); exact HO221.out)) k_ hk⟩))
                (case aO => exact (by (with_reducible repeat (first | apply Kd.R_alloc | apply Kd.R_drewN | apply Kd.R_drew)); exact Kd.R_mono HO217.out (fun _ hk => ⟨hk.2, hk.1⟩)))
                (case aS => exact (below_size (by repeat (first | (with_reducible first | exact HB.out | apply below_alloc | apply pw_below_drewN | apply below_drew1 | refine below_set ?_ GE176.out) | exact HB.out))))
                (case aL => have := LMc45.out; omega)
                intro v223 w59 ho hb hg hat
                rw [← Ny222.out] at ho
                have n0_ := Aside0.mk (Kd.R_after (ok := (fun k_ => some k_ ≠ (.slice Ao60 y219.length co60 : Value).ownBlock)) (by (with_reducible repeat (first | apply Kd.R_alloc | apply Kd.R_drewN | apply Kd.R_drew)); exact Kd.R_mono HO_3.out (fun _ hk => ⟨hk.2, hk.1⟩)) hg hat)
                have n1_ := Aside0.mk (blk_grown (g := gb176) (o := .cells #[.int .i64 a0_0, .slice (some ad180) l0_1.length c0_1] 43 (0, 0)) (by (with_reducible repeat (first | refine blk_drewN ?_ _ | refine blk_drew ?_ | refine blk_alloc ?_ _)); exact BK176.out) hg (Kd.R_ne HO217.out BK176.out (by decide)))
                have n2_ := Aside0.mk (Kd.R_after (ok := (fun k_ => some k_ ≠ (.slice Ao50 x3_1.length co50 : Value).ownBlock)) (by (with_reducible repeat (first | apply Kd.R_alloc | apply Kd.R_drewN | apply Kd.R_drew)); exact Kd.R_mono HO221.out (fun _ hk => ⟨hk.2, hk.1⟩)) hg hat)
                have n3_ := Aside0.mk (hb)
                have n4_ := Aside0.mk (ho)
                clear HO_3
                clear BK176
                clear HO221
                clear HB
                clear HO217
                have HO_3 := n0_
                have BK176 := n1_
                have HO221 := n2_
                have HB := n3_
                have HO224 := n4_
                clear n0_ n1_ n2_ n3_ n4_
                clear ho hb hg hat
                refine hK.out _ _ ⟨(blk_cell BK176.out 0).trans rfl, (blk_cell BK176.out 1).trans rfl, ((HB.out.cell (World.block_lt_of_cell? w _ hw218_0)).trans hw218_0), ((HB.out.cell (World.block_lt_of_cell? w _ hw218_1)).trans hw218_1), ((HB.out.cell (World.block_lt_of_cell? w _ hw218_2)).trans hw218_2), ((HB.out.cell (World.block_lt_of_cell? w _ hw218_3)).trans hw218_3)⟩ (fun hHeld => ?_)
                clear hK K
                refine norm_ (a' := ?_) ?_ ?_
                rotate_left
                ·show Act.put _ (some 53) _ = _
                 simp only [Act.put, sQ0, sQ1, sQ2, i64_w]
                 rfl
                refine pure_ (i := 12) (N := some 6) (v := ?_) (a' := ?_) #[tt,tt,tt,tt,tt,tt,tt,tt,tt,tt,tt,tt,tt] rfl rfl (any_of HT_.out (by kernel_rfl)) (fun _ _ _ h => h) (Or.inl ⟨by rfl, ?_⟩) ?_ ?_
                rotate_left
                ·intro w'
                 go_simp
                 with_reducible rfl
                rotate_left
                ·simp only [Act.put, sQ0, sQ1, sQ2, i64_w]
                 rfl
                refine done_ (done_of HT_.out (by kernel_rfl)) ?_
                have q61 : (x5_2 : Int) ≤ ((x3_1.length : Int) : Int) := of_decide_eq_true (by first | (with_reducible assumption) | assumption)
                obtain ⟨i061, hi061, _, hsz61, _⟩ := info_parts info127
                have hroom61 : x3_1.length ≤ co50 := (Kd.R_reads' HO_3.out).2.1
                have hC61 : Kd.C k127 _ Ao50 x3_1.length x3_1 := (Kd.R_reads' HO_3.out).2.2
                have q061 : (0 : Int) ≤ (x5_2 : Int) := of_decide_eq_true (by first | (with_reducible assumption) | assumption)
                have hcut61 := cut_from (P := Try.prog) 41 127 .i64 Try.underlying41 hi061 4 hsz61 Ao50 x3_1.length co50 x5_2 q061 q61
                have hr61 := Kd.C_drop (m := (x5_2 : Int).toNat) (c := co50) hC61 (by omega) hroom61
                obtain ⟨A61, hA61⟩ : ∃ A1, A1 = (if co50 = (x5_2 : Int).toNat then Ao50 else (Ao50 : Option Addr).map (·.add ((x5_2 : Int).toNat * 4))) := ⟨_, rfl⟩
                obtain ⟨c61, hc61⟩ : ∃ c1, c1 = co50 - (x5_2 : Int).toNat := ⟨_, rfl⟩
                have hy61 : y225.length = x3_1.length - (x5_2 : Int).toNat := (by rw [Ny225.out, List.length_drop] <;> omega)
                rw [show (x3_1).drop (x5_2 : Int).toNat = y225 from Ny225.out.symm] at hr61
                replace hr61 : Kd.C k127 _ A61 y225.length y225 := (by rw [hA61]; exact hr61)
                rw [← hy61, ← hA61, ← hc61] at hcut61
                have HR228 := Aside0.mk hr61
                have HC228 := Aside0.mk (show y225.length ≤ c61 from by rw [hy61, hc61]; exact Nat.sub_le_sub_right hroom61 _)
                clear hr61 hC61 hroom61 hi061 hsz61 hc61
                have KY61 := Aside0.mk hy61
                have KA61 := Aside0.mk hA61
                clear hy61 hA61
                have KL61 := Aside0.mk (show (x5_2 : Int).toNat ≤ x3_1.length from by omega)
                replace q61 := eq_true q61
                try go_wp2_with (first | ((with_reducible refine gate_builtin (b := .append) (xs := #[.tmp 54, .tmp 57]) rfl ?_); at_builtin; refine Kd.R_append_rows k127 (w0 := w) w.heap.size rfl (.tmp 54) (.tmp 57) 41 127 (.agg #[(.int .i64 0), (.int .i64 0), (.int .i64 0), (.int .i64 0)]) 32 rfl Try.underlying41 info127 rfl (by decide) (by omega) v223 y222 y225 _ _ _ (fun k_ => some k_ ≠ (.slice Ao50 x3_1.length co50 : Value).ownBlock ∧ some k_ ≠ (.slice Ao60 y219.length co60 : Value).ownBlock) (fun _ => False) rfl rfl ?aO ?aR (fun _ _ h => h) (fun _ h => h.elim) ?aF ?aB ?aS ?aL ?_; (case aR => repeat (first | exact (by repeat (first | (with_reducible exact HR228.out) | (with_reducible refine Kd.C_alloc ?_ _) | (with_reducible refine Kd.C_drewN ?_ _) | (with_reducible refine Kd.C_drew ?_) | exact HR228.out)) | (with_reducible refine Kd.C_alloc ?_ _) | (with_reducible refine Kd.C_drewN ?_ _) | (with_reducible refine Kd.C_drew ?_))); (case aB => exact (by repeat (first | (with_reducible first | exact HB.out | apply below_alloc | apply pw_below_drewN | apply below_drew1 | refine below_set ?_ GE176.out) | exact HB.out))); (case aF => exact (fun k_ hk => ⟨Kd.fresh' (Kd.R_lt (by (with_reducible repeat (first | apply Kd.R_alloc | apply Kd.R_drewN | apply Kd.R_drew)); exact HO_3.out)) k_ hk, Kd.fresh' (Kd.R_lt (by (with_reducible repeat (first | apply Kd.R_alloc | apply Kd.R_drewN | apply Kd.R_drew)); exact HO221.out)) k_ hk⟩)); (case aO => exact (by (with_reducible repeat (first | apply Kd.R_alloc | apply Kd.R_drewN | apply Kd.R_drew)); exact HO224.out)); (case aS => exact (below_size (by repeat (first | (with_reducible first | exact HB.out | apply below_alloc | apply pw_below_drewN | apply below_drew1 | refine below_set ?_ GE176.out) | exact HB.out)))); (case aL => have := LMc48.out; omega); intro v230 w62 ho hb hg hat; rw [← Ny229.out] at ho; have n0_ := Aside0.mk (Kd.R_after (ok := (fun k_ => some k_ ≠ (.slice Ao60 y219.length co60 : Value).ownBlock)) (by (with_reducible repeat (first | apply Kd.R_alloc | apply Kd.R_drewN | apply Kd.R_drew)); exact HO_3.out) hg hat); have n1_ := Aside0.mk (blk_grown (g := gb176) (o := .cells #[.int .i64 a0_0, .slice (some ad180) l0_1.length c0_1] 43 (0, 0)) (by (with_reducible repeat (first | refine blk_drewN ?_ _ | refine blk_drew ?_ | refine blk_alloc ?_ _)); exact BK176.out) hg (Kd.R_ne HO224.out BK176.out (by decide))); have n2_ := Aside0.mk (Kd.R_after (ok := (fun k_ => some k_ ≠ (.slice Ao50 x3_1.length co50 : Value).ownBlock)) (by (with_reducible repeat (first | apply Kd.R_alloc | apply Kd.R_drewN | apply Kd.R_drew)); exact HO221.out) hg hat); have n3_ := Aside0.mk (hb); have n4_ := Aside0.mk ((show Kd.C k127 w62 A61 y225.length y225 from by rw [Ny225.out, KA61.out]; exact Kd.C_drop (m := (x5_2 : Int).toNat) (c := co50) ((Kd.R_reads' (Kd.R_after (ok := (fun k_ => some k_ ≠ (.slice Ao60 y219.length co60 : Value).ownBlock)) (by (with_reducible repeat (first | apply Kd.R_alloc | apply Kd.R_drewN | apply Kd.R_drew)); exact HO_3.out) hg hat)).2.2) KL61.out ((Kd.R_reads' (Kd.R_after (ok := (fun k_ => some k_ ≠ (.slice Ao60 y219.length co60 : Value).ownBlock)) (by (with_reducible repeat (first | apply Kd.R_alloc | apply Kd.R_drewN | apply Kd.R_drew)); exact HO_3.out) hg hat)).2.1))); have n5_ := Aside0.mk (ho); clear HO_3; clear BK176; clear HO221; clear HB; clear HR228; clear HO224; have HO_3 := n0_; have BK176 := n1_; have HO221 := n2_; have HB := n3_; have HR228 := n4_; have HO231 := n5_; clear n0_ n1_ n2_ n3_ n4_ n5_; clear ho hb hg hat))
                go_roundg k2
                case measure => have := HK1.out; have := HK2.out; omega
                case rel => exact ⟨(y229), (wrap64 (x4_1 + 1)), (by first | rfl | (simp; done) | (simp [*]; done)), H', ⟨by have := HK1.out; have := HK2.out; omega⟩, ⟨by (with_reducible repeat (first | apply Kd.R_alloc | apply Kd.R_drewN | apply Kd.R_drew)); exact Kd.R_mono HO231.out (fun _ hk => trivial)⟩, ⟨by (with_reducible repeat (first | refine blk_drewN ?_ _ | refine blk_drew ?_ | refine blk_alloc ?_ _)); exact BK176.out⟩, ⟨by repeat (first | (with_reducible first | exact HB.out | apply below_alloc | apply pw_below_drewN | apply below_drew1 | refine below_set ?_ GE176.out) | exact HB.out)⟩⟩
               ·rw [if_neg c48] at H
                exact absurd H (by simp)
              ·rw [if_neg c45] at H
               exact absurd H (by simp)
             ·rw [if_neg c44] at H
              exact absurd H (by simp)
            ·rw [if_neg c43] at H
             exact absurd H (by simp)
           ·rw [if_neg c42] at H
            exact absurd H (by simp)
          ·rw [if_neg c41] at H
           exact absurd H (by simp)
         ·rw [if_neg c40] at H
          exact absurd H (by simp)
     ·rw [if_neg c7] at H
      have c7b0 : (((rd_T127 l0_1 x4_1).f1) == 1) = false := beq_eq_false_iff_ne.mpr c7
      have c7b1 : (((rd_T127 l0_1 x4_1).f1) != 1) = true := bne_iff_ne.mpr c7
      have H' := Aside0.mk H
      clear H
      have hcz63_0 : wr.cell? ⟨gb176, 0, none⟩ = some (.int .i64 a0_0) := (blk_cell BK176.out 0).trans rfl
      have hcz63_1 : wr.cell? ⟨gb176, 1, none⟩ = some (.slice A0_1 l0_1.length c0_1) := (blk_cell BK176.out 1).trans rfl
      have hfz63_0 := blk_frozen BK176.out 0
      have hfz63_1 := blk_frozen BK176.out 1
      have p180 : 0 ≤ (x4_1 : Int) := of_decide_eq_true (by first | (with_reducible assumption) | assumption)
      have q180 : x4_1 < (l0_1.length : Int) := of_decide_eq_true (by first | (with_reducible assumption) | assumption)
      obtain ⟨ad180, e180, hx180_0, hx180_1, hx180_2, hx180_3⟩ := at_T127 HR0_1.out x4_1 p180 q180
      cases e180
      replace hx180_0 := (HB.out.cell (World.block_lt_of_cell? w _ hx180_0)).trans hx180_0
      replace hx180_1 := (HB.out.cell (World.block_lt_of_cell? w _ hx180_1)).trans hx180_1
      replace hx180_2 := (HB.out.cell (World.block_lt_of_cell? w _ hx180_2)).trans hx180_2
      replace hx180_3 := (HB.out.cell (World.block_lt_of_cell? w _ hx180_3)).trans hx180_3
      replace p180 := eq_true p180
      replace q180 := eq_true q180
      go_wp2
      go_roundg k1
      case measure => have := HK1.out; omega
      case rel => exact ⟨(x3_1), (wrap64 (x4_1 + 1)), (by first | rfl | (simp; done) | (simp [*]; done)), H', ⟨by have := HK1.out; omega⟩, ⟨by (with_reducible repeat (first | apply Kd.R_alloc | apply Kd.R_drewN | apply Kd.R_drew)); exact HO_3.out⟩, ⟨by (with_reducible repeat (first | refine blk_drewN ?_ _ | refine blk_drew ?_ | refine blk_alloc ?_ _)); exact BK176.out⟩, ⟨by repeat (first | (with_reducible first | exact HB.out | apply below_alloc | apply pw_below_drewN | apply below_drew1 | refine below_set ?_ GE176.out) | exact HB.out)⟩⟩
    ·rw [if_neg c6] at H
     exact absurd H (by simp)
   ·rw [if_neg c5] at H
    have c5b0 : decide (x4_1 < (l0_1.length : Int)) = false := decide_eq_false c5
    clear c5
    obtain rfl := Option.some.inj H
    have hcz64_0 : wr.cell? ⟨gb176, 0, none⟩ = some (.int .i64 a0_0) := (blk_cell BK176.out 0).trans rfl
    have hcz64_1 : wr.cell? ⟨gb176, 1, none⟩ = some (.slice A0_1 l0_1.length c0_1) := (blk_cell BK176.out 1).trans rfl
    have hfz64_0 := blk_frozen BK176.out 0
    have hfz64_1 := blk_frozen BK176.out 1
    go_wp2
    go_ret
    exact ⟨_, by first | rfl | (simp [errW_none, errW_some] <;> rfl) | (simp [*, errW_none, errW_some] <;> rfl), by (with_reducible repeat (first | apply Kd.R_alloc | apply Kd.R_drewN | apply Kd.R_drew)); exact HO_3.out, by repeat (first | (with_reducible first | exact HB.out | apply below_alloc | apply pw_below_drewN | apply below_drew1 | refine below_set ?_ GE176.out) | exact HB.out)⟩
def knellref12_Least.l0 : Nat → Int → Int → Int → List (S127) → Option (Int)
 | 0, _, _, _, _ => none
 | k + 1, x3, x4, x233000, x233001 => if x4 < (x233001.length : Int) then (if 0 ≤ x4 then (if ((rd_T127 x233001 x4).f1) = 1 then (if x3 < 0 then (knellref12_Least.l0 k ((rd_T127 x233001 x4).f2) (wrap64 (x4 + 1)) x233000 x233001) else (if ((rd_T127 x233001 x4).f2) < x3 then (knellref12_Least.l0 k ((rd_T127 x233001 x4).f2) (wrap64 (x4 + 1)) x233000 x233001) else (knellref12_Least.l0 k x3 (wrap64 (x4 + 1)) x233000 x233001))) else (knellref12_Least.l0 k x3 (wrap64 (x4 + 1)) x233000 x233001)) else (none)) else (some x3)
def knellref12_Least.f (k : Nat) (a0_0 : Int) (l0_1 : List (S127)) : Option (Int) := knellref12_Least.l0 k (-1) 0 a0_0 l0_1
theorem knellref12_Least.calls (k : Nat) (a0_0 : Int) (A0_1 : Option Addr) (c0_1 : Nat) (l0_1 : List (S127)) (r : Int) (w : World) (hr0_1 : Kd.C k127 w A0_1 l0_1.length l0_1) (hc0_1 : l0_1.length ≤ c0_1) (h : knellref12_Least.f k a0_0 l0_1 = some r) :
  Calls Try.prog 83 #[.agg #[.int .i64 a0_0, .slice A0_1 l0_1.length c0_1]] w fun e w' => e = .returned (.int .i64 r) ∧ Below w.heap.size w w' := by
 have hu43 := Try.underlying43
 have HR0_1 := Aside0.mk hr0_1
 have HC0_1 := Aside0.mk hc0_1
 clear hr0_1 hc0_1
 have HB := Aside0.mk (Below.refl w.heap.size w)
 have H : (knellref12_Least.l0 k (-1) 0 a0_0 l0_1) = some r := h
 clear h
 have H' := Aside0.mk H
 clear H
 go_enter Try.func83, Try.ntmps83
 go_wp2_with (first | ((with_reducible refine gate_dst (N := 1) rfl ?_); refine box_event ?hg (N := 1) ?hd (cs := #[.int .i64 a0_0, .slice A0_1 l0_1.length c0_1]) (t := 43) ?hr ?_; (case hd => rfl); (case hg => rfl); (case hr => first | (go_simp; done) | (go_simp; rfl)); intro gb232 hg w2 hbox hb; have n0_ := Aside0.mk (below_step (by repeat (first | (with_reducible first | exact HB.out | apply below_alloc | apply pw_below_drewN | apply below_drew1) | exact HB.out)) hb); have n1_ := Aside0.mk (hbox); have n2_ := Aside0.mk ((by rw [hg]; exact (below_size (by repeat (first | (with_reducible first | exact HB.out | apply below_alloc | apply pw_below_drewN | apply below_drew1) | exact HB.out))) : w.heap.size ≤ gb232)); have n3_ := Aside0.mk ((by rw [hg]; exact (below_size (by repeat (first | (with_reducible first | exact HB.out | apply below_alloc | apply pw_below_drewN | apply below_drew1) | exact HB.out))) : w.heap.size ≤ gb232)); clear HB; have HB := n0_; have BK232 := n1_; have GW232 := n2_; have GE232 := n3_; clear n0_ n1_ n2_ n3_; clear hb hbox hg))
 go_loopg [3, 4] k (fun kq v3 v4 w' => ∃ (x3_1 : Int) (x4_1 : Int), v3 = .int .i64 x3_1 ∧ v4 = .int .i64 x4_1 ∧ Aside0 (knellref12_Least.l0 kq x3_1 x4_1 a0_0 l0_1 = some r) ∧ Aside0 (kq ≤ k) ∧ Aside0 (w'.heap[gb232]? = some (.cells #[.int .i64 a0_0, (.slice A0_1 l0_1.length c0_1)] 43 (0, 0))) ∧ Aside0 (Below w.heap.size w w'))
 case atStart => exact ⟨((-1)), (0), (by first | rfl | (simp; done) | (simp [*]; done)), (by first | rfl | (simp; done) | (simp [*]; done)), H', ⟨Nat.le_refl _⟩, ⟨by (with_reducible repeat (first | refine blk_drewN ?_ _ | refine blk_drew ?_ | refine blk_alloc ?_ _)); exact BK232.out⟩, ⟨by repeat (first | (with_reducible first | exact HB.out | apply below_alloc | apply pw_below_drewN | apply below_drew1 | refine below_set ?_ GE232.out) | exact HB.out)⟩⟩
 case round =>
  clear H'
  try clear p2
  obtain ⟨x3_1, x4_1, rfl, rfl, HA, HK1, BK232, HB⟩ := hrel
  cases gk with
  | zero => exact absurd HA.out (by simp [knellref12_Least.l0])
  | succ k1 =>
   have H := HA.out
   clear HA
   simp only [knellref12_Least.l0] at H
   by_cases c3 : x4_1 < (l0_1.length : Int)
   ·rw [if_pos c3] at H
    have c3b0 : decide (x4_1 < (l0_1.length : Int)) = true := decide_eq_true c3
    clear c3
    by_cases c4 : 0 ≤ x4_1
    ·rw [if_pos c4] at H
     have c4b0 : decide (0 ≤ x4_1) = true := decide_eq_true c4
     clear c4
     by_cases c5 : ((rd_T127 l0_1 x4_1).f1) = 1
     ·rw [if_pos c5] at H
      have c5b0 : (((rd_T127 l0_1 x4_1).f1) == 1) = true := beq_iff_eq.mpr c5
      have c5b1 : (((rd_T127 l0_1 x4_1).f1) != 1) = false := bne_eq_false_iff_eq.mpr c5
      clear c5
      by_cases c6 : x3_1 < 0
      ·rw [if_pos c6] at H
       have c6b0 : decide (x3_1 < 0) = true := decide_eq_true c6
       clear c6
       have H' := Aside0.mk H
       clear H
       have hcz7_0 : wr.cell? ⟨gb232, 0, none⟩ = some (.int .i64 a0_0) := (blk_cell BK232.out 0).trans rfl
       have hcz7_1 : wr.cell? ⟨gb232, 1, none⟩ = some (.slice A0_1 l0_1.length c0_1) := (blk_cell BK232.out 1).trans rfl
       have hfz7_0 := blk_frozen BK232.out 0
       have hfz7_1 := blk_frozen BK232.out 1
       have p233 : 0 ≤ (x4_1 : Int) := of_decide_eq_true (by first | (with_reducible assumption) | assumption)
       have q233 : x4_1 < (l0_1.length : Int) := of_decide_eq_true (by first | (with_reducible assumption) | assumption)
       obtain ⟨ad233, e233, hx233_0, hx233_1, hx233_2, hx233_3⟩ := at_T127 HR0_1.out x4_1 p233 q233
       cases e233
       replace hx233_0 := (HB.out.cell (World.block_lt_of_cell? w _ hx233_0)).trans hx233_0
       replace hx233_1 := (HB.out.cell (World.block_lt_of_cell? w _ hx233_1)).trans hx233_1
       replace hx233_2 := (HB.out.cell (World.block_lt_of_cell? w _ hx233_2)).trans hx233_2
       replace hx233_3 := (HB.out.cell (World.block_lt_of_cell? w _ hx233_3)).trans hx233_3
       replace p233 := eq_true p233
       replace q233 := eq_true q233
       have p234 : 0 ≤ (x4_1 : Int) := of_decide_eq_true (by first | (with_reducible assumption) | assumption)
       have q234 : x4_1 < (l0_1.length : Int) := of_decide_eq_true (by first | (with_reducible assumption) | assumption)
       obtain ⟨ad234, e234, hx234_0, hx234_1, hx234_2, hx234_3⟩ := at_T127 HR0_1.out x4_1 p234 q234
       obtain rfl : ad233 = ad234 := (by injection e234)
       replace hx234_0 := (HB.out.cell (World.block_lt_of_cell? w _ hx234_0)).trans hx234_0
       replace hx234_1 := (HB.out.cell (World.block_lt_of_cell? w _ hx234_1)).trans hx234_1
       replace hx234_2 := (HB.out.cell (World.block_lt_of_cell? w _ hx234_2)).trans hx234_2
       replace hx234_3 := (HB.out.cell (World.block_lt_of_cell? w _ hx234_3)).trans hx234_3
       replace p234 := eq_true p234
       replace q234 := eq_true q234
       go_wp2
       go_roundg k1
       case measure => have := HK1.out; omega
       case rel => exact ⟨((rd_T127 l0_1 x4_1).f2), (wrap64 (x4_1 + 1)), (by first | rfl | (simp; done) | (simp [*]; done)), (by first | rfl | (simp; done) | (simp [*]; done)), H', ⟨by have := HK1.out; omega⟩, ⟨by (with_reducible repeat (first | refine blk_drewN ?_ _ | refine blk_drew ?_ | refine blk_alloc ?_ _)); exact BK232.out⟩, ⟨by repeat (first | (with_reducible first | exact HB.out | apply below_alloc | apply pw_below_drewN | apply below_drew1 | refine below_set ?_ GE232.out) | exact HB.out)⟩⟩
      ·rw [if_neg c6] at H
       have c6b0 : decide (x3_1 < 0) = false := decide_eq_false c6
       clear c6
       by_cases c8 : ((rd_T127 l0_1 x4_1).f2) < x3_1
       ·rw [if_pos c8] at H
        have c8b0 : decide (((rd_T127 l0_1 x4_1).f2) < x3_1) = true := decide_eq_true c8
        clear c8
        have H' := Aside0.mk H
        clear H
        have hcz9_0 : wr.cell? ⟨gb232, 0, none⟩ = some (.int .i64 a0_0) := (blk_cell BK232.out 0).trans rfl
        have hcz9_1 : wr.cell? ⟨gb232, 1, none⟩ = some (.slice A0_1 l0_1.length c0_1) := (blk_cell BK232.out 1).trans rfl
        have hfz9_0 := blk_frozen BK232.out 0
        have hfz9_1 := blk_frozen BK232.out 1
        have p233 : 0 ≤ (x4_1 : Int) := of_decide_eq_true (by first | (with_reducible assumption) | assumption)
        have q233 : x4_1 < (l0_1.length : Int) := of_decide_eq_true (by first | (with_reducible assumption) | assumption)
        obtain ⟨ad233, e233, hx233_0, hx233_1, hx233_2, hx233_3⟩ := at_T127 HR0_1.out x4_1 p233 q233
        cases e233
        replace hx233_0 := (HB.out.cell (World.block_lt_of_cell? w _ hx233_0)).trans hx233_0
        replace hx233_1 := (HB.out.cell (World.block_lt_of_cell? w _ hx233_1)).trans hx233_1
        replace hx233_2 := (HB.out.cell (World.block_lt_of_cell? w _ hx233_2)).trans hx233_2
        replace hx233_3 := (HB.out.cell (World.block_lt_of_cell? w _ hx233_3)).trans hx233_3
        replace p233 := eq_true p233
        replace q233 := eq_true q233
        have p235 : 0 ≤ (x4_1 : Int) := of_decide_eq_true (by first | (with_reducible assumption) | assumption)
        have q235 : x4_1 < (l0_1.length : Int) := of_decide_eq_true (by first | (with_reducible assumption) | assumption)
        obtain ⟨ad235, e235, hx235_0, hx235_1, hx235_2, hx235_3⟩ := at_T127 HR0_1.out x4_1 p235 q235
        obtain rfl : ad233 = ad235 := (by injection e235)
        replace hx235_0 := (HB.out.cell (World.block_lt_of_cell? w _ hx235_0)).trans hx235_0
        replace hx235_1 := (HB.out.cell (World.block_lt_of_cell? w _ hx235_1)).trans hx235_1
        replace hx235_2 := (HB.out.cell (World.block_lt_of_cell? w _ hx235_2)).trans hx235_2
        replace hx235_3 := (HB.out.cell (World.block_lt_of_cell? w _ hx235_3)).trans hx235_3
        replace p235 := eq_true p235
        replace q235 := eq_true q235
        have p236 : 0 ≤ (x4_1 : Int) := of_decide_eq_true (by first | (with_reducible assumption) | assumption)
        have q236 : x4_1 < (l0_1.length : Int) := of_decide_eq_true (by first | (with_reducible assumption) | assumption)
        obtain ⟨ad236, e236, hx236_0, hx236_1, hx236_2, hx236_3⟩ := at_T127 HR0_1.out x4_1 p236 q236
        obtain rfl : ad233 = ad236 := (by injection e236)
        replace hx236_0 := (HB.out.cell (World.block_lt_of_cell? w _ hx236_0)).trans hx236_0
        replace hx236_1 := (HB.out.cell (World.block_lt_of_cell? w _ hx236_1)).trans hx236_1
        replace hx236_2 := (HB.out.cell (World.block_lt_of_cell? w _ hx236_2)).trans hx236_2
        replace hx236_3 := (HB.out.cell (World.block_lt_of_cell? w _ hx236_3)).trans hx236_3
        replace p236 := eq_true p236
        replace q236 := eq_true q236
        go_wp2
        go_roundg k1
        case measure => have := HK1.out; omega
        case rel => exact ⟨((rd_T127 l0_1 x4_1).f2), (wrap64 (x4_1 + 1)), (by first | rfl | (simp; done) | (simp [*]; done)), (by first | rfl | (simp; done) | (simp [*]; done)), H', ⟨by have := HK1.out; omega⟩, ⟨by (with_reducible repeat (first | refine blk_drewN ?_ _ | refine blk_drew ?_ | refine blk_alloc ?_ _)); exact BK232.out⟩, ⟨by repeat (first | (with_reducible first | exact HB.out | apply below_alloc | apply pw_below_drewN | apply below_drew1 | refine below_set ?_ GE232.out) | exact HB.out)⟩⟩
       ·rw [if_neg c8] at H
        have c8b0 : decide (((rd_T127 l0_1 x4_1).f2) < x3_1) = false := decide_eq_false c8
        clear c8
        have H' := Aside0.mk H
        clear H
        have hcz10_0 : wr.cell? ⟨gb232, 0, none⟩ = some (.int .i64 a0_0) := (blk_cell BK232.out 0).trans rfl
        have hcz10_1 : wr.cell? ⟨gb232, 1, none⟩ = some (.slice A0_1 l0_1.length c0_1) := (blk_cell BK232.out 1).trans rfl
        have hfz10_0 := blk_frozen BK232.out 0
        have hfz10_1 := blk_frozen BK232.out 1
        have p233 : 0 ≤ (x4_1 : Int) := of_decide_eq_true (by first | (with_reducible assumption) | assumption)
        have q233 : x4_1 < (l0_1.length : Int) := of_decide_eq_true (by first | (with_reducible assumption) | assumption)
        obtain ⟨ad233, e233, hx233_0, hx233_1, hx233_2, hx233_3⟩ := at_T127 HR0_1.out x4_1 p233 q233
        cases e233
        replace hx233_0 := (HB.out.cell (World.block_lt_of_cell? w _ hx233_0)).trans hx233_0
        replace hx233_1 := (HB.out.cell (World.block_lt_of_cell? w _ hx233_1)).trans hx233_1
        replace hx233_2 := (HB.out.cell (World.block_lt_of_cell? w _ hx233_2)).trans hx233_2
        replace hx233_3 := (HB.out.cell (World.block_lt_of_cell? w _ hx233_3)).trans hx233_3
        replace p233 := eq_true p233
        replace q233 := eq_true q233
        have p235 : 0 ≤ (x4_1 : Int) := of_decide_eq_true (by first | (with_reducible assumption) | assumption)
        have q235 : x4_1 < (l0_1.length : Int) := of_decide_eq_true (by first | (with_reducible assumption) | assumption)
        obtain ⟨ad235, e235, hx235_0, hx235_1, hx235_2, hx235_3⟩ := at_T127 HR0_1.out x4_1 p235 q235
        obtain rfl : ad233 = ad235 := (by injection e235)
        replace hx235_0 := (HB.out.cell (World.block_lt_of_cell? w _ hx235_0)).trans hx235_0
        replace hx235_1 := (HB.out.cell (World.block_lt_of_cell? w _ hx235_1)).trans hx235_1
        replace hx235_2 := (HB.out.cell (World.block_lt_of_cell? w _ hx235_2)).trans hx235_2
        replace hx235_3 := (HB.out.cell (World.block_lt_of_cell? w _ hx235_3)).trans hx235_3
        replace p235 := eq_true p235
        replace q235 := eq_true q235
        go_wp2
        go_roundg k1
        case measure => have := HK1.out; omega
        case rel => exact ⟨(x3_1), (wrap64 (x4_1 + 1)), (by first | rfl | (simp; done) | (simp [*]; done)), (by first | rfl | (simp; done) | (simp [*]; done)), H', ⟨by have := HK1.out; omega⟩, ⟨by (with_reducible repeat (first | refine blk_drewN ?_ _ | refine blk_drew ?_ | refine blk_alloc ?_ _)); exact BK232.out⟩, ⟨by repeat (first | (with_reducible first | exact HB.out | apply below_alloc | apply pw_below_drewN | apply below_drew1 | refine below_set ?_ GE232.out) | exact HB.out)⟩⟩
     ·rw [if_neg c5] at H
      have c5b0 : (((rd_T127 l0_1 x4_1).f1) == 1) = false := beq_eq_false_iff_ne.mpr c5
      have c5b1 : (((rd_T127 l0_1 x4_1).f1) != 1) = true := bne_iff_ne.mpr c5
      have H' := Aside0.mk H
      clear H
      have hcz11_0 : wr.cell? ⟨gb232, 0, none⟩ = some (.int .i64 a0_0) := (blk_cell BK232.out 0).trans rfl
      have hcz11_1 : wr.cell? ⟨gb232, 1, none⟩ = some (.slice A0_1 l0_1.length c0_1) := (blk_cell BK232.out 1).trans rfl
      have hfz11_0 := blk_frozen BK232.out 0
      have hfz11_1 := blk_frozen BK232.out 1
      have p233 : 0 ≤ (x4_1 : Int) := of_decide_eq_true (by first | (with_reducible assumption) | assumption)
      have q233 : x4_1 < (l0_1.length : Int) := of_decide_eq_true (by first | (with_reducible assumption) | assumption)
      obtain ⟨ad233, e233, hx233_0, hx233_1, hx233_2, hx233_3⟩ := at_T127 HR0_1.out x4_1 p233 q233
      cases e233
      replace hx233_0 := (HB.out.cell (World.block_lt_of_cell? w _ hx233_0)).trans hx233_0
      replace hx233_1 := (HB.out.cell (World.block_lt_of_cell? w _ hx233_1)).trans hx233_1
      replace hx233_2 := (HB.out.cell (World.block_lt_of_cell? w _ hx233_2)).trans hx233_2
      replace hx233_3 := (HB.out.cell (World.block_lt_of_cell? w _ hx233_3)).trans hx233_3
      replace p233 := eq_true p233
      replace q233 := eq_true q233
      go_wp2
      go_roundg k1
      case measure => have := HK1.out; omega
      case rel => exact ⟨(x3_1), (wrap64 (x4_1 + 1)), (by first | rfl | (simp; done) | (simp [*]; done)), (by first | rfl | (simp; done) | (simp [*]; done)), H', ⟨by have := HK1.out; omega⟩, ⟨by (with_reducible repeat (first | refine blk_drewN ?_ _ | refine blk_drew ?_ | refine blk_alloc ?_ _)); exact BK232.out⟩, ⟨by repeat (first | (with_reducible first | exact HB.out | apply below_alloc | apply pw_below_drewN | apply below_drew1 | refine below_set ?_ GE232.out) | exact HB.out)⟩⟩
    ·rw [if_neg c4] at H
     exact absurd H (by simp)
   ·rw [if_neg c3] at H
    have c3b0 : decide (x4_1 < (l0_1.length : Int)) = false := decide_eq_false c3
    clear c3
    obtain rfl := Option.some.inj H
    have hcz12_0 : wr.cell? ⟨gb232, 0, none⟩ = some (.int .i64 a0_0) := (blk_cell BK232.out 0).trans rfl
    have hcz12_1 : wr.cell? ⟨gb232, 1, none⟩ = some (.slice A0_1 l0_1.length c0_1) := (blk_cell BK232.out 1).trans rfl
    have hfz12_0 := blk_frozen BK232.out 0
    have hfz12_1 := blk_frozen BK232.out 1
    go_wp2
    go_ret
    exact ⟨by first | rfl | (simp [errW_none, errW_some] <;> rfl) | (simp [*, errW_none, errW_some] <;> rfl), by repeat (first | (with_reducible first | exact HB.out | apply below_alloc | apply pw_below_drewN | apply below_drew1 | refine below_set ?_ GE232.out) | exact HB.out)⟩
end Go.Proofs.Ythniclbmpeklmaa.KJf
end
section
namespace Go.Proofs.Ythniclbmpeklmaa.KJf
open Go.RowKit Go.Proofs.YthniclbmpeklmaaW.PrintWords Go.Proofs.YthniclbmpeklmaaW.PrintLast Go.Proofs.YthniclbmpeklmaaW.PrintMore
attribute [local go_sem] max2_int min2_int max_two min_two max_three min_three max_four min_four   -- for this text's walks alone
set_option linter.unusedVariables false
set_option linter.unusedSimpArgs false
def knellref12_turn.f (k : Nat) (a0_0 : Int) (l0_1 : List (S127)) (a1_0 : Int) (a1_1 : Int) (a2 : Int) : Option (Int × (List (S127))) := (some (([] : List (S127)) : List (S127))).bind fun y156 => (if y156.length + l0_1.length < 4398046511104 then ((some (y156 ++ l0_1 : List (S127))).bind fun y159 => ((knellref12_Find.f k a0_0 y159 a1_0 a1_1).bind fun t162 => (if 0 ≤ t162 then (if t162 < (y159.length : Int) then (some (a0_0, (y159.set (t162 : Int).toNat (⟨(⟨(rd_T127 y159 t162).f0.f0, (rd_T127 y159 t162).f0.f1⟩ : S36), a2, (rd_T127 y159 t162).f2⟩ : S127)))) else (none)) else (none)))) else (none))
def knellref12_turn.T2 : Bool × List (List Nat × List Nat) := (true, [([], []), ([0], [0]), ([], []), ([], []), ([2, 3], [2, 3]), ([], []), ([1, 4, 0, 1, 2, 3, 4, 5], [1, 4]), ([6, 0, 1, 2, 3, 4, 5], [6]), ([7, 5, 4, 0, 1, 2, 3, 4, 5], [5, 7])])
def knellref12_turn.B2 : List Nat := [0, 1, 0, 0, 12, 0, 63, 127, 255]
theorem knellref12_turn.tab2 : rtab .any (opsOf Try.f79 2) = knellref12_turn.T2 := by kernel_rfl
theorem knellref12_turn.bits2 : waitsOk knellref12_turn.T2.2 knellref12_turn.B2 = true := by kernel_rfl
set_option maxHeartbeats 8000000 in
set_option maxRecDepth 100000 in
theorem knellref12_turn.calls (k : Nat) (a0_0 : Int) (A0_1 : Option Addr) (c0_1 : Nat) (l0_1 : List (S127)) (a1_0 : Int) (a1_1 : Int) (a2 : Int) (r1 : Int) (r2 : List (S127)) (w : World) (hr0_1 : Kd.C k127 w A0_1 l0_1.length l0_1) (hc0_1 : l0_1.length ≤ c0_1) (h : knellref12_turn.f k a0_0 l0_1 a1_0 a1_1 a2 = some (r1, r2)) :
  Calls Try.prog 79 #[.agg #[.int .i64 a0_0, .slice A0_1 l0_1.length c0_1], .agg #[.int .i64 a1_0, .int .i64 a1_1], .int .i64 a2] w fun e w' => ∃ v1_ : Value, e = .returned (.agg #[.int .i64 r1, v1_]) ∧ Kd.R k127 127 w' w.heap.size (fun _ => True) v1_ r2 ∧ Below w.heap.size w w' := by
 have hu43 := Try.underlying43
 have hu36 := Try.underlying36
 have HR0_1 := Aside0.mk hr0_1
 have HC0_1 := Aside0.mk hc0_1
 clear hr0_1 hc0_1
 have HB := Aside0.mk (Below.refl w.heap.size w)
 have H : ((some (([] : List (S127)) : List (S127))).bind fun y156 => (if y156.length + l0_1.length < 4398046511104 then ((some (y156 ++ l0_1 : List (S127))).bind fun y159 => ((knellref12_Find.f k a0_0 y159 a1_0 a1_1).bind fun t162 => (if 0 ≤ t162 then (if t162 < (y159.length : Int) then (some (a0_0, (y159.set (t162 : Int).toNat (⟨(⟨(rd_T127 y159 t162).f0.f0, (rd_T127 y159 t162).f0.f1⟩ : S36), a2, (rd_T127 y159 t162).f2⟩ : S127)))) else (none)) else (none)))) else (none))) = some (r1, r2) := h
 clear h
 obtain ⟨y156, hy156⟩ : ∃ y_ : List (S127), y_ = (([] : List (S127))) := ⟨_, rfl⟩
 replace H : (if y156.length + l0_1.length < 4398046511104 then ((some (y156 ++ l0_1 : List (S127))).bind fun y159 => ((knellref12_Find.f k a0_0 y159 a1_0 a1_1).bind fun t162 => (if 0 ≤ t162 then (if t162 < (y159.length : Int) then (some (a0_0, (y159.set (t162 : Int).toNat (⟨(⟨(rd_T127 y159 t162).f0.f0, (rd_T127 y159 t162).f0.f1⟩ : S36), a2, (rd_T127 y159 t162).f2⟩ : S127)))) else (none)) else (none)))) else (none)) = some (r1, r2) := by first | (rw [hy156]; with_reducible exact H) | (have H2_ := (Option.bind_some _ _).symm.trans H; rw [hy156]; with_reducible exact H2_) | (have H2_ := (Option.bind_some _ _).symm.trans H; with_reducible exact H2_) | with_reducible exact H | (rw [hy156]; exact H) | exact H
 have Ny156 := Aside0.mk hy156
 clear hy156
 by_cases c4 : y156.length + l0_1.length < 4398046511104
 ·rw [if_pos c4] at H
  have LMc4 := Aside0.mk c4
  clear c4
  obtain ⟨y159, hy159⟩ : ∃ y_ : List (S127), y_ = (y156 ++ l0_1) := ⟨_, rfl⟩
  replace H : ((knellref12_Find.f k a0_0 y159 a1_0 a1_1).bind fun t162 => (if 0 ≤ t162 then (if t162 < (y159.length : Int) then (some (a0_0, (y159.set (t162 : Int).toNat (⟨(⟨(rd_T127 y159 t162).f0.f0, (rd_T127 y159 t162).f0.f1⟩ : S36), a2, (rd_T127 y159 t162).f2⟩ : S127)))) else (none)) else (none))) = some (r1, r2) := by first | (rw [hy159]; with_reducible exact H) | (have H2_ := (Option.bind_some _ _).symm.trans H; rw [hy159]; with_reducible exact H2_) | (have H2_ := (Option.bind_some _ _).symm.trans H; with_reducible exact H2_) | with_reducible exact H | (rw [hy159]; exact H) | exact H
  have Ny159 := Aside0.mk hy159
  clear hy159
  replace H := Option.bind_eq_some_iff.mp H
  obtain ⟨t162, A50, H⟩ := H
  replace H : (if 0 ≤ t162 then (if t162 < (y159.length : Int) then (some (a0_0, (y159.set (t162 : Int).toNat (⟨(⟨(rd_T127 y159 t162).f0.f0, (rd_T127 y159 t162).f0.f1⟩ : S36), a2, (rd_T127 y159 t162).f2⟩ : S127)))) else (none)) else (none)) = some (r1, r2) := H
  have A5 := Aside0.mk A50
  clear A50
  by_cases c6 : 0 ≤ t162
  ·rw [if_pos c6] at H
   have c6b0 : decide (0 ≤ t162) = true := decide_eq_true c6
   clear c6
   by_cases c7 : t162 < (y159.length : Int)
   ·rw [if_pos c7] at H
    have c7b0 : decide (t162 < (y159.length : Int)) = true := decide_eq_true c7
    clear c7
    obtain ⟨y163, hy163⟩ : ∃ y_ : List (S127), y_ = (y159.set (t162 : Int).toNat (⟨(⟨(rd_T127 y159 t162).f0.f0, (rd_T127 y159 t162).f0.f1⟩ : S36), a2, (rd_T127 y159 t162).f2⟩ : S127)) := ⟨_, rfl⟩
    replace H : (some (a0_0, y163)) = some (r1, r2) := by first | (rw [hy163]; with_reducible exact H) | (have H2_ := (Option.bind_some _ _).symm.trans H; rw [hy163]; with_reducible exact H2_) | (have H2_ := (Option.bind_some _ _).symm.trans H; with_reducible exact H2_) | with_reducible exact H | (rw [hy163]; exact H) | exact H
    have Ny163 := Aside0.mk hy163
    clear hy163
    simp only [Option.some.injEq, Prod.mk.injEq] at H
    obtain ⟨rfl, rfl⟩ := H
    go_enter Try.func79, Try.ntmps79
    try go_wp2_with (first | ((with_reducible refine gate_dst (N := 3) rfl ?_); refine box_event ?hg (N := 3) ?hd (cs := #[.int .i64 a0_0, .slice A0_1 l0_1.length c0_1]) (t := 43) ?hr ?_; (case hd => rfl); (case hg => rfl); (case hr => first | (go_simp; done) | (go_simp; rfl)); intro gb153 hg w9 hbox hb; have n0_ := Aside0.mk (below_step (by repeat (first | (with_reducible first | exact HB.out | apply below_alloc | apply pw_below_drewN | apply below_drew1) | exact HB.out)) hb); have n1_ := Aside0.mk (hbox); have n2_ := Aside0.mk ((by rw [hg]; exact (below_size (by repeat (first | (with_reducible first | exact HB.out | apply below_alloc | apply pw_below_drewN | apply below_drew1) | exact HB.out))) : w.heap.size ≤ gb153)); have n3_ := Aside0.mk ((by rw [hg]; exact (below_size (by repeat (first | (with_reducible first | exact HB.out | apply below_alloc | apply pw_below_drewN | apply below_drew1) | exact HB.out))) : w.heap.size ≤ gb153)); clear HB; have HB := n0_; have BK153 := n1_; have GW153 := n2_; have GE153 := n3_; clear n0_ n1_ n2_ n3_; clear hb hbox hg) | ((with_reducible refine gate_dst (N := 4) rfl ?_); refine box_event ?hg (N := 4) ?hd (cs := #[.int .i64 a1_0, .int .i64 a1_1]) (t := 36) ?hr ?_; (case hd => rfl); (case hg => rfl); (case hr => first | (go_simp; done) | (go_simp; rfl)); intro gb154 hg w10 hbox hb; have n0_ := Aside0.mk (blk_below (g := gb153) (o := .cells #[.int .i64 a0_0, .slice A0_1 l0_1.length c0_1] 43 (0, 0)) (by (with_reducible repeat (first | refine blk_drewN ?_ _ | refine blk_drew ?_ | refine blk_alloc ?_ _)); exact BK153.out) hb); have n1_ := Aside0.mk (below_step (by repeat (first | (with_reducible first | exact HB.out | apply below_alloc | apply pw_below_drewN | apply below_drew1 | refine below_set ?_ GE153.out) | exact HB.out)) hb); have n2_ := Aside0.mk (hbox); have n3_ := Aside0.mk ((by rw [hg]; exact (below_size (by repeat (first | (with_reducible first | exact HB.out | apply below_alloc | apply pw_below_drewN | apply below_drew1 | refine below_set ?_ GE153.out) | exact HB.out))) : w.heap.size ≤ gb154)); have n4_ := Aside0.mk ((by rw [hg]; exact (below_size (by repeat (first | (with_reducible first | exact HB.out | apply below_alloc | apply pw_below_drewN | apply below_drew1 | refine below_set ?_ GE153.out) | exact HB.out))) : w.heap.size ≤ gb154)); have n5_ := Aside0.mk ((by rw [hg]; exact Nat.ne_of_lt (blk_lt (g := gb153) (o := .cells #[.int .i64 a0_0, .slice A0_1 l0_1.length c0_1] 43 (0, 0)) (by (with_reducible repeat (first | refine blk_drewN ?_ _ | refine blk_drew ?_ | refine blk_alloc ?_ _)); exact BK153.out)) : gb153 ≠ gb154)); have n6_ := Aside0.mk ((by rw [hg]; exact Nat.ne_of_gt (blk_lt (g := gb153) (o := .cells #[.int .i64 a0_0, .slice A0_1 l0_1.length c0_1] 43 (0, 0)) (by (with_reducible repeat (first | refine blk_drewN ?_ _ | refine blk_drew ?_ | refine blk_alloc ?_ _)); exact BK153.out)) : gb154 ≠ gb153)); clear BK153; clear HB; have BK153 := n0_; have HB := n1_; have BK154 := n2_; have GW154 := n3_; have GE154 := n4_; have NB153_154 := n5_; have NB154_153 := n6_; clear n0_ n1_ n2_ n3_ n4_ n5_ n6_; clear hb hbox hg) | ((with_reducible refine gate_dst (N := 6) rfl ?_); refine box_event ?hg (N := 6) ?hd (cs := #[.int .i64 0, .slice none 0 0]) (t := 43) ?hr ?_; (case hd => rfl); (case hg => rfl); (case hr => first | (go_simp; done) | (go_simp; rfl)); intro gb155 hg w11 hbox hb; have n0_ := Aside0.mk (blk_below (g := gb153) (o := .cells #[.int .i64 a0_0, .slice A0_1 l0_1.length c0_1] 43 (0, 0)) (by (with_reducible repeat (first | refine blk_drewN ?_ _ | refine blk_drew ?_ | refine blk_alloc ?_ _)); exact BK153.out) hb); have n1_ := Aside0.mk (blk_below (g := gb154) (o := .cells #[.int .i64 a1_0, .int .i64 a1_1] 36 (0, 0)) (by (with_reducible repeat (first | refine blk_drewN ?_ _ | refine blk_drew ?_ | refine blk_alloc ?_ _)); exact BK154.out) hb); have n2_ := Aside0.mk (below_step (by repeat (first | (with_reducible first | exact HB.out | apply below_alloc | apply pw_below_drewN | apply below_drew1 | refine below_set ?_ GE153.out | refine below_set ?_ GE154.out) | exact HB.out)) hb); have n3_ := Aside0.mk (hbox); have n4_ := Aside0.mk ((by rw [hg]; exact (below_size (by repeat (first | (with_reducible first | exact HB.out | apply below_alloc | apply pw_below_drewN | apply below_drew1 | refine below_set ?_ GE153.out | refine below_set ?_ GE154.out) | exact HB.out))) : w.heap.size ≤ gb155)); have n5_ := Aside0.mk ((by rw [hg]; exact (below_size (by repeat (first | (with_reducible first | exact HB.out | apply below_alloc | apply pw_below_drewN | apply below_drew1 | refine below_set ?_ GE153.out | refine below_set ?_ GE154.out) | exact HB.out))) : w.heap.size ≤ gb155)); have n6_ := Aside0.mk ((by rw [hg]; exact Nat.ne_of_lt (blk_lt (g := gb153) (o := .cells #[.int .i64 a0_0, .slice A0_1 l0_1.length c0_1] 43 (0, 0)) (by (with_reducible repeat (first | refine blk_drewN ?_ _ | refine blk_drew ?_ | refine blk_alloc ?_ _)); exact BK153.out)) : gb153 ≠ gb155)); have n7_ := Aside0.mk ((by rw [hg]; exact Nat.ne_of_gt (blk_lt (g := gb153) (o := .cells #[.int .i64 a0_0, .slice A0_1 l0_1.length c0_1] 43 (0, 0)) (by (with_reducible repeat (first | refine blk_drewN ?_ _ | refine blk_drew ?_ | refine blk_alloc ?_ _)); exact BK153.out)) : gb155 ≠ gb153)); have n8_ := Aside0.mk ((by rw [hg]; exact Nat.ne_of_lt (blk_lt (g := gb154) (o := .cells #[.int .i64 a1_0, .int .i64 a1_1] 36 (0, 0)) (by (with_reducible repeat (first | refine blk_drewN ?_ _ | refine blk_drew ?_ | refine blk_alloc ?_ _)); exact BK154.out)) : gb154 ≠ gb155)); have n9_ := Aside0.mk ((by rw [hg]; exact Nat.ne_of_gt (blk_lt (g := gb154) (o := .cells #[.int .i64 a1_0, .int .i64 a1_1] 36 (0, 0)) (by (with_reducible repeat (first | refine blk_drewN ?_ _ | refine blk_drew ?_ | refine blk_alloc ?_ _)); exact BK154.out)) : gb155 ≠ gb154)); clear BK153; clear BK154; clear HB; have BK153 := n0_; have BK154 := n1_; have HB := n2_; have BK155 := n3_; have GW155 := n4_; have GE155 := n5_; have NB153_155 := n6_; have NB155_153 := n7_; have NB154_155 := n8_; have NB155_154 := n9_; clear n0_ n1_ n2_ n3_ n4_ n5_ n6_ n7_ n8_ n9_; clear hb hbox hg) | ((with_reducible refine gate_dst (N := 7) rfl ?_); refine Kd.R_lit k127 _ 127 ?hg (N := 7) ?hd (xs := ([] : List (S127))) (inner := []) (ok := fun _ => True) (okp := fun _ => True) ?hr ?hp (fun _ hk => hk) trivial (Below.refl _ _) (Nat.le_refl _) (by simp) ?_; (case hd => rfl); (case hg => rfl); (case hr => first | (go_simp; done) | (go_simp; rfl)); (case hp => exact (Reps.none _ _)); intro v157 w12 ho13 hb hg_ hnew_; clear hg_ hnew_; (first | rw [← Ny156.out] at ho13 | (simp only [Int.reduceToNat] at ho13; rw [← Ny156.out] at ho13)); have n0_ := Aside0.mk (Kd.R_lower ho13 (below_size (by repeat (first | (with_reducible first | exact HB.out | apply below_alloc | apply pw_below_drewN | apply below_drew1 | refine below_set ?_ GE153.out | refine below_set ?_ GE154.out | refine below_set ?_ GE155.out) | exact HB.out)))); have n1_ := Aside0.mk (blk_below (g := gb153) (o := .cells #[.int .i64 a0_0, .slice A0_1 l0_1.length c0_1] 43 (0, 0)) (by (with_reducible repeat (first | refine blk_drewN ?_ _ | refine blk_drew ?_ | refine blk_alloc ?_ _)); exact BK153.out) hb); have n2_ := Aside0.mk (blk_below (g := gb154) (o := .cells #[.int .i64 a1_0, .int .i64 a1_1] 36 (0, 0)) (by (with_reducible repeat (first | refine blk_drewN ?_ _ | refine blk_drew ?_ | refine blk_alloc ?_ _)); exact BK154.out) hb); have n3_ := Aside0.mk (blk_below (g := gb155) (o := .cells #[.int .i64 0, .slice none 0 0] 43 (0, 0)) (by (with_reducible repeat (first | refine blk_drewN ?_ _ | refine blk_drew ?_ | refine blk_alloc ?_ _)); exact BK155.out) hb); have n4_ := Aside0.mk (below_step (by repeat (first | (with_reducible first | exact HB.out | apply below_alloc | apply pw_below_drewN | apply below_drew1 | refine below_set ?_ GE153.out | refine below_set ?_ GE154.out | refine below_set ?_ GE155.out) | exact HB.out)) hb); clear BK153; clear BK154; clear BK155; clear HB; have HO158 := n0_; have BK153 := n1_; have BK154 := n2_; have BK155 := n3_; have HB := n4_; clear n0_ n1_ n2_ n3_ n4_; clear hb ho13; have hnb14 := NB153_154.out; have hnc14 := NB154_153.out; have hnb15 := NB153_155.out; have hnc15 := NB155_153.out; have hcz16_0 : w12.cell? ⟨gb153, 0, none⟩ = some (.int .i64 a0_0) := (blk_cell BK153.out 0).trans rfl; have hcz16_1 : w12.cell? ⟨gb153, 1, none⟩ = some (.slice A0_1 l0_1.length c0_1) := (blk_cell BK153.out 1).trans rfl; have hfz16_0 := blk_frozen BK153.out 0; have hfz16_1 := blk_frozen BK153.out 1) | ((with_reducible refine gate_builtin (b := .append) (xs := #[.tmp 7, .tmp 9]) rfl ?_); at_builtin; refine Kd.R_append_rows k127 (w0 := w) w.heap.size rfl (.tmp 7) (.tmp 9) 41 127 (.agg #[(.int .i64 0), (.int .i64 0), (.int .i64 0), (.int .i64 0)]) 32 rfl Try.underlying41 info127 rfl (by decide) (by omega) v157 y156 l0_1 _ _ _ (fun _ => True) (fun _ => False) rfl rfl ?aO ?aR (fun _ _ h => h) (fun _ h => h.elim) ?aF ?aB ?aS ?aL ?_; (case aR => repeat (first | exact (Kd.C_below HR0_1.out HB.out) | (with_reducible refine Kd.C_alloc ?_ _) | (with_reducible refine Kd.C_drewN ?_ _) | (with_reducible refine Kd.C_drew ?_))); (case aB => exact (by repeat (first | (with_reducible first | exact HB.out | apply below_alloc | apply pw_below_drewN | apply below_drew1 | refine below_set ?_ GE153.out | refine below_set ?_ GE154.out | refine below_set ?_ GE155.out) | exact HB.out))); (case aF => exact (fun _ _ => trivial)); (case aO => exact (by (with_reducible repeat (first | apply Kd.R_alloc | apply Kd.R_drewN | apply Kd.R_drew)); exact HO158.out)); (case aS => exact (below_size (by repeat (first | (with_reducible first | exact HB.out | apply below_alloc | apply pw_below_drewN | apply below_drew1 | refine below_set ?_ GE153.out | refine below_set ?_ GE154.out | refine below_set ?_ GE155.out) | exact HB.out)))); (case aL => have := LMc4.out; omega); intro v160 w17 ho hb hg hat; rw [← Ny159.out] at ho; have n0_ := Aside0.mk (blk_grown (g := gb153) (o := .cells #[.int .i64 a0_0, .slice A0_1 l0_1.length c0_1] 43 (0, 0)) (by (with_reducible repeat (first | refine blk_drewN ?_ _ | refine blk_drew ?_ | refine blk_alloc ?_ _)); exact BK153.out) hg (Kd.R_ne HO158.out BK153.out (by decide))); have n1_ := Aside0.mk (blk_grown (g := gb154) (o := .cells #[.int .i64 a1_0, .int .i64 a1_1] 36 (0, 0)) (by (with_reducible repeat (first | refine blk_drewN ?_ _ | refine blk_drew ?_ | refine blk_alloc ?_ _)); exact BK154.out) hg (Kd.R_ne HO158.out BK154.out (by decide))); have n2_ := Aside0.mk (blk_grown (g := gb155) (o := .cells #[.int .i64 0, .slice none 0 0] 43 (0, 0)) (by (with_reducible repeat (first | refine blk_drewN ?_ _ | refine blk_drew ?_ | refine blk_alloc ?_ _)); exact BK155.out) hg (Kd.R_ne HO158.out BK155.out (by decide))); have n3_ := Aside0.mk (hb); have n4_ := Aside0.mk (ho); clear BK153; clear BK154; clear BK155; clear HB; clear HO158; have BK153 := n0_; have BK154 := n1_; have BK155 := n2_; have HB := n3_; have HO161 := n4_; clear n0_ n1_ n2_ n3_ n4_; clear ho hb hg hat; obtain ⟨Ao18, co18, eo18⟩ := Kd.R_slice HO161.out; subst eo18; have hcz19_0 : w17.cell? ⟨gb153, 0, none⟩ = some (.int .i64 a0_0) := (blk_cell BK153.out 0).trans rfl; have hcz19_1 : w17.cell? ⟨gb153, 1, none⟩ = some (.slice A0_1 l0_1.length c0_1) := (blk_cell BK153.out 1).trans rfl; have hfz19_0 := blk_frozen BK153.out 0; have hfz19_1 := blk_frozen BK153.out 1))
    have n0_ : Aside0 (Kd.R k127 127 (w17.setCell ⟨gb153, 1, none⟩ (.slice Ao18 y159.length co18)) w.heap.size (fun _ => True) (.slice Ao18 y159.length co18) y159) := ⟨by (with_reducible repeat (first | apply Kd.R_alloc | apply Kd.R_drewN | apply Kd.R_drew)); exact Kd.R_mono (Kd.R_far (p := ⟨gb153, 1, none⟩) (Kd.R_types HO161.out BK153.out (by decide)) (fun _ hk => hk.2) (.slice Ao18 y159.length co18)) (fun _ hk => trivial)⟩
    have n1_ : Aside0 ((w17.setCell ⟨gb153, 1, none⟩ (.slice Ao18 y159.length co18)).heap[gb153]? = some (.cells #[.int .i64 a0_0, .slice Ao18 y159.length co18] 43 (0, 0))) := ⟨by (with_reducible repeat (first | refine blk_drewN ?_ _ | refine blk_drew ?_ | refine blk_alloc ?_ _)); refine blk_put (cs := #[.int .i64 a0_0, .slice A0_1 l0_1.length c0_1]) ?_ 1 _ rfl; (with_reducible repeat (first | refine blk_drewN ?_ _ | refine blk_drew ?_ | refine blk_alloc ?_ _)); exact BK153.out⟩
    have n2_ : Aside0 ((w17.setCell ⟨gb153, 1, none⟩ (.slice Ao18 y159.length co18)).heap[gb154]? = some (.cells #[.int .i64 a1_0, .int .i64 a1_1] 36 (0, 0))) := ⟨by (with_reducible repeat (first | refine blk_drewN ?_ _ | refine blk_drew ?_ | refine blk_alloc ?_ _)); refine blk_far ?_ NB154_153.out _; (with_reducible repeat (first | refine blk_drewN ?_ _ | refine blk_drew ?_ | refine blk_alloc ?_ _)); exact BK154.out⟩
    have n3_ : Aside0 ((w17.setCell ⟨gb153, 1, none⟩ (.slice Ao18 y159.length co18)).heap[gb155]? = some (.cells #[.int .i64 0, .slice none 0 0] 43 (0, 0))) := ⟨by (with_reducible repeat (first | refine blk_drewN ?_ _ | refine blk_drew ?_ | refine blk_alloc ?_ _)); refine blk_far ?_ NB155_153.out _; (with_reducible repeat (first | refine blk_drewN ?_ _ | refine blk_drew ?_ | refine blk_alloc ?_ _)); exact BK155.out⟩
    have n4_ : Aside0 (Below w.heap.size w (w17.setCell ⟨gb153, 1, none⟩ (.slice Ao18 y159.length co18))) := ⟨by repeat (first | (with_reducible first | exact HB.out | apply below_alloc | apply pw_below_drewN | apply below_drew1 | refine below_set ?_ GE153.out | refine below_set ?_ GE154.out | refine below_set ?_ GE155.out) | exact HB.out)⟩
    (try clear HO161)
    (try clear BK153)
    (try clear BK154)
    (try clear BK155)
    (try clear HB)
    generalize (w17.setCell ⟨gb153, 1, none⟩ (.slice Ao18 y159.length co18)) = w20 at n0_ n1_ n2_ n3_ n4_ ⊢
    have HO161 := n0_
    have BK153 := n1_
    have BK154 := n2_
    have BK155 := n3_
    have HB := n4_
    clear n0_ n1_ n2_ n3_ n4_
    have n0_ := Aside0.mk (Kd.R_drew HO161.out)
    have n1_ := Aside0.mk (blk_drew BK153.out)
    have n2_ := Aside0.mk (blk_drew BK154.out)
    have n3_ := Aside0.mk (blk_drew BK155.out)
    have n4_ := Aside0.mk (below_drew1 HB.out)
    clear HO161
    clear BK153
    clear BK154
    clear BK155
    clear HB
    have HO161 := n0_
    have BK153 := n1_
    have BK154 := n2_
    have BK155 := n3_
    have HB := n4_
    clear n0_ n1_ n2_ n3_ n4_
    refine start_ (n := 9) (S := fun w' => w'.cell? ⟨gb153, 0, none⟩ = some (.int .i64 a0_0) ∧ w'.cell? ⟨gb153, 1, none⟩ = some (.slice Ao18 y159.length co18) ∧ w'.cell? ⟨gb154, 0, none⟩ = some (.int .i64 a1_0) ∧ w'.cell? ⟨gb154, 1, none⟩ = some (.int .i64 a1_1)) (ds := [8]) #[ff,ff,ff,ff,ff,ff,ff,ff,ff] (by kernel_rfl) rfl rfl ⟨(blk_cell BK153.out 0).trans rfl, (blk_cell BK153.out 1).trans rfl, (blk_cell BK154.out 0).trans rfl, (blk_cell BK154.out 1).trans rfl⟩ (fun hHeld => ?_); refine with_tabW knellref12_turn.tab2 knellref12_turn.bits2 (fun HT_ HW_ => ?_)
    generalize w20.drew = w21 at HO161 BK153 BK154 BK155 HB hHeld ⊢
    refine pure_ (i := 0) (N := some 12) (v := ?_) (a' := ?_) #[tt,ff,ff,ff,ff,ff,ff,ff,ff] rfl rfl (any_of HT_.out (by kernel_rfl)) (fun _ _ _ h => h) (Or.inl ⟨by rfl, ?_⟩) ?_ ?_
    rotate_left
    ·intro w'
     go_simp
     with_reducible rfl
    rotate_left
    ·simp only [Act.put, sQ0, sQ1, sQ2, i64_w]
     rfl
    refine pure_ (i := 5) (N := some 17) (v := ?_) (a' := ?_) #[tt,ff,ff,ff,ff,tt,ff,ff,ff] rfl rfl (any_of HT_.out (by kernel_rfl)) (fun _ _ _ h => h) (Or.inl ⟨by rfl, ?_⟩) ?_ ?_
    rotate_left
    ·intro w'
     go_simp
     with_reducible rfl
    rotate_left
    ·simp only [Act.put, sQ0, sQ1, sQ2, i64_w]
     rfl
    refine take_ (i := 1) (N := some 13) (v := ?_) (a' := ?_) #[tt,tt,ff,ff,ff,tt,ff,ff,ff] rfl rfl (take_ofW HT_.out HW_.out (by kernel_rfl)) (fun _ _ _ h => h) (Or.inl ⟨by rfl, ?_⟩) hHeld ?_ ?_
    rotate_left
    ·rintro w' ⟨s0, s1, s2, s3⟩
     go_simp
     with_reducible rfl
    rotate_left
    ·simp only [Act.put, sQ0, sQ1, sQ2, i64_w]
     rfl
    refine take_ (i := 2) (N := some 14) (v := ?_) (a' := ?_) #[tt,tt,tt,ff,ff,tt,ff,ff,ff] rfl rfl (take_ofW HT_.out HW_.out (by kernel_rfl)) (fun _ _ _ h => h) (Or.inl ⟨by rfl, ?_⟩) hHeld ?_ ?_
    rotate_left
    ·rintro w' ⟨s0, s1, s2, s3⟩
     go_simp
     with_reducible rfl
    rotate_left
    ·simp only [Act.put, sQ0, sQ1, sQ2, i64_w]
     rfl
    refine take_ (i := 3) (N := some 15) (v := ?_) (a' := ?_) #[tt,tt,tt,tt,ff,tt,ff,ff,ff] rfl rfl (take_ofW HT_.out HW_.out (by kernel_rfl)) (fun _ _ _ h => h) (Or.inl ⟨by rfl, ?_⟩) hHeld ?_ ?_
    rotate_left
    ·rintro w' ⟨s0, s1, s2, s3⟩
     go_simp
     with_reducible rfl
    rotate_left
    ·simp only [Act.put, sQ0, sQ1, sQ2, i64_w]
     rfl
    refine one_ (i := 4) (N := some 16) #[tt,tt,tt,tt,tt,tt,ff,ff,ff] rfl rfl (one_of HT_.out (by kernel_rfl)) (by decide) (fun K hK => ?_)
    refine goes_ Try.func68 (by kernel_rfl) rfl #[.agg #[.int .i64 a0_0, .slice Ao18 y159.length co18], .agg #[.int .i64 a1_0, .int .i64 a1_1]] (by rfl) rfl rfl (by (try simp only [List.map_toArray, List.map_cons, List.map_nil]); first | done | rfl | (simp only [List.length_drop, List.length_take]; rfl)) ?_
    with_reducible refine (knellref12_Find.calls k a0_0 _ _ y159 a1_0 a1_1 t162 _ ?side1 ?side2 A5.out).mono ?_
    (case side1 => repeat (first | exact (Kd.R_reads' HO161.out).2.2 | (with_reducible refine Kd.C_alloc ?_ _) | (with_reducible refine Kd.C_drewN ?_ _) | (with_reducible refine Kd.C_drew ?_)))
    (case side2 => exact (Kd.R_reads' HO161.out).2.1)
    rintro e w22 ⟨rfl, hb⟩
    refine ⟨_, rfl, ?_⟩
    have n0_ := Aside0.mk (Kd.R_below (by (with_reducible repeat (first | apply Kd.R_alloc | apply Kd.R_drewN | apply Kd.R_drew)); exact HO161.out) hb)
    have n1_ := Aside0.mk (blk_below (g := gb153) (o := .cells #[.int .i64 a0_0, .slice Ao18 y159.length co18] 43 (0, 0)) (by (with_reducible repeat (first | refine blk_drewN ?_ _ | refine blk_drew ?_ | refine blk_alloc ?_ _)); exact BK153.out) hb)
    have n2_ := Aside0.mk (blk_below (g := gb154) (o := .cells #[.int .i64 a1_0, .int .i64 a1_1] 36 (0, 0)) (by (with_reducible repeat (first | refine blk_drewN ?_ _ | refine blk_drew ?_ | refine blk_alloc ?_ _)); exact BK154.out) hb)
    have n3_ := Aside0.mk (blk_below (g := gb155) (o := .cells #[.int .i64 0, .slice none 0 0] 43 (0, 0)) (by (with_reducible repeat (first | refine blk_drewN ?_ _ | refine blk_drew ?_ | refine blk_alloc ?_ _)); exact BK155.out) hb)
    have n4_ := Aside0.mk (below_step (by repeat (first | (with_reducible first | exact HB.out | apply below_alloc | apply pw_below_drewN | apply below_drew1 | refine below_set ?_ GE153.out | refine below_set ?_ GE154.out | refine below_set ?_ GE155.out) | exact HB.out)) hb)
    clear HO161
    clear BK153
    clear BK154
    clear BK155
    clear HB
    have HO161 := n0_
    have BK153 := n1_
    have BK154 := n2_
    have BK155 := n3_
    have HB := n4_
    clear n0_ n1_ n2_ n3_ n4_
    (try clear hb)
    (try clear hb2)
    (try clear hk)
    (try clear hi)
    have p8 : 0 ≤ (t162 : Int) := of_decide_eq_true (by first | (with_reducible assumption) | assumption)
    have q8 : (t162 : Int) < ((y159.length : Int) : Int) := of_decide_eq_true (by first | (with_reducible assumption) | assumption)
    obtain ⟨go8, co8, eo8, gb8, gl8, cl8, HG8⟩ := Kd.R_form HO161.out (by omega)
    (first | cases eo8 | (injection eo8 with ea_ en_ ec_; (first | subst ea_ | (injection ea_ with ea_; subst ea_)); subst ec_; clear en_))
    have GB8 := Aside0.mk gb8
    have GG8 := Aside0.mk HG8
    clear gb8 gl8 HG8
    obtain ⟨ce8, hcl8, hM8, hcc8, hfr8⟩ := Kd.R_elem HO161.out z127 (t162 : Int) p8 q8
    obtain rfl := k127_openM hM8
    have hx8_0 : World.cell? _ ⟨go8, (t162 : Int).toNat * 4, none⟩ = some (.int .i64 ((rd_T127 y159 t162).f0.f0)) := hcc8 0 _ rfl
    have hx8_1 : World.cell? _ ⟨go8, (t162 : Int).toNat * 4 + 1, none⟩ = some (.int .i64 ((rd_T127 y159 t162).f0.f1)) := hcc8 1 _ rfl
    have hx8_2 : World.cell? _ ⟨go8, (t162 : Int).toNat * 4 + 2, none⟩ = some (.int .i64 ((rd_T127 y159 t162).f1)) := hcc8 2 _ rfl
    have hx8_3 : World.cell? _ ⟨go8, (t162 : Int).toNat * 4 + 3, none⟩ = some (.int .i64 ((rd_T127 y159 t162).f2)) := hcc8 3 _ rfl
    have hf8_0 : World.frozen? _ ⟨go8, (t162 : Int).toNat * 4, none⟩ = false := hfr8 0
    have hf8_1 : World.frozen? _ ⟨go8, (t162 : Int).toNat * 4 + 1, none⟩ = false := hfr8 1
    have hf8_2 : World.frozen? _ ⟨go8, (t162 : Int).toNat * 4 + 2, none⟩ = false := hfr8 2
    have hf8_3 : World.frozen? _ ⟨go8, (t162 : Int).toNat * 4 + 3, none⟩ = false := hfr8 3
    clear hcl8 hcc8 hfr8 hM8
    replace p8 := eq_true p8
    replace q8 := eq_true q8
    obtain ⟨ce23, hcl23, hM23, hcc23, hfr23⟩ := Kd.R_elem HO161.out z127 (t162 : Int) (of_decide_eq_true (by first | (with_reducible assumption) | assumption)) (by have h_ : (t162 : Int) < ((y159.length : Int) : Int) := of_decide_eq_true (by first | (with_reducible assumption) | assumption); first | exact h_ | (have e_ := (Kd.R_reads' HO161.out).1; omega) | simpa using h_)
    obtain rfl := k127_openM hM23
    have HP23 := (Kd.R_seg HO161.out (t162 : Int) (of_decide_eq_true (by first | (with_reducible assumption) | assumption)) (by have h_ : (t162 : Int) < ((y159.length : Int) : Int) := of_decide_eq_true (by first | (with_reducible assumption) | assumption); first | exact h_ | (have e_ := (Kd.R_reads' HO161.out).1; omega) | simpa using h_) (seg := [.int .i64 a2]) (j := 2) hcl23 hcc23 (show 3 ≤ 4 from by decide) (x' := (⟨(⟨(rd_T127 y159 t162).f0.f0, (rd_T127 y159 t162).f0.f1⟩ : S36), a2, (rd_T127 y159 t162).f2⟩ : S127)) (k127_mkM _ _ _ (⟨(⟨(rd_T127 y159 t162).f0.f0, (rd_T127 y159 t162).f0.f1⟩ : S36), a2, (rd_T127 y159 t162).f2⟩ : S127) ) (fun _ hk => hk)).1
    rw [← Ny163.out] at HP23
    have HQ23 := Aside0.mk HP23
    clear hcl23 hcc23 hfr23 hM23 HP23
    refine hK.out _ _ ⟨(blk_cell BK153.out 0).trans rfl, (blk_cell BK153.out 1).trans rfl, (blk_cell BK154.out 0).trans rfl, (blk_cell BK154.out 1).trans rfl⟩ (fun hHeld => ?_)
    clear hK K
    refine norm_ (a' := ?_) ?_ ?_
    rotate_left
    ·show Act.put _ (some 16) _ = _
     simp only [Act.put, sQ0, sQ1, sQ2, i64_w]
     rfl
    refine pure_ (i := 6) (N := some 18) (v := ?_) (a' := ?_) #[tt,tt,tt,tt,tt,tt,tt,ff,ff] rfl rfl (any_of HT_.out (by kernel_rfl)) (fun _ _ _ h => h) (Or.inl ⟨by rfl, ?_⟩) ?_ ?_
    rotate_left
    ·intro w'
     go_simp
     with_reducible rfl
    rotate_left
    ·simp only [Act.put, sQ0, sQ1, sQ2, i64_w]
     rfl
    refine pure_ (i := 7) (N := some 19) (v := ?_) (a' := ?_) #[tt,tt,tt,tt,tt,tt,tt,tt,ff] rfl rfl (any_of HT_.out (by kernel_rfl)) (fun _ _ _ h => h) (Or.inl ⟨by rfl, ?_⟩) ?_ ?_
    rotate_left
    ·intro w'
     go_simp
     with_reducible rfl
    rotate_left
    ·simp only [Act.put, sQ0, sQ1, sQ2, i64_w]
     rfl
    refine last_ (i := 8) (N := none) #[tt,tt,tt,tt,tt,tt,tt,tt,tt] rfl rfl (one_of HT_.out (by kernel_rfl)) (by decide) (fun K hK => ?_)
    refine skip_ (w1 := ?_) (by rfl) rfl ?_ ?_
    rotate_left
    ·go_simp
     rfl
    refine hK.out _ _ ?_
    clear hK K
    refine done_ (done_of HT_.out (by kernel_rfl)) ?_
    have n0_ : Aside0 (Kd.R k127 127 (w22.setCell ⟨go8, (t162 : Int).toNat * 4 + 2, none⟩ (.int .i64 a2)) w.heap.size (fun _ => True) (.slice (some ⟨go8, 0, none⟩) y159.length co18) y163) := ⟨by (with_reducible repeat (first | apply Kd.R_alloc | apply Kd.R_drewN | apply Kd.R_drew)); exact HQ23.out⟩
    have n1_ : Aside0 ((w22.setCell ⟨go8, (t162 : Int).toNat * 4 + 2, none⟩ (.int .i64 a2)).heap[gb153]? = some (.cells #[.int .i64 a0_0, .slice (some ⟨go8, 0, none⟩) y159.length co18] 43 (0, 0))) := ⟨by (with_reducible repeat (first | refine blk_drewN ?_ _ | refine blk_drew ?_ | refine blk_alloc ?_ _)); refine blk_far ?_ (by have h_ := Kd.R_ne HO161.out BK153.out (by decide); intro e_; exact h_ (by rw [e_]; rfl)) _; (with_reducible repeat (first | refine blk_drewN ?_ _ | refine blk_drew ?_ | refine blk_alloc ?_ _)); exact BK153.out⟩
    have n2_ : Aside0 ((w22.setCell ⟨go8, (t162 : Int).toNat * 4 + 2, none⟩ (.int .i64 a2)).heap[gb154]? = some (.cells #[.int .i64 a1_0, .int .i64 a1_1] 36 (0, 0))) := ⟨by (with_reducible repeat (first | refine blk_drewN ?_ _ | refine blk_drew ?_ | refine blk_alloc ?_ _)); refine blk_far ?_ (by have h_ := Kd.R_ne HO161.out BK154.out (by decide); intro e_; exact h_ (by rw [e_]; rfl)) _; (with_reducible repeat (first | refine blk_drewN ?_ _ | refine blk_drew ?_ | refine blk_alloc ?_ _)); exact BK154.out⟩
    have n3_ : Aside0 ((w22.setCell ⟨go8, (t162 : Int).toNat * 4 + 2, none⟩ (.int .i64 a2)).heap[gb155]? = some (.cells #[.int .i64 0, .slice none 0 0] 43 (0, 0))) := ⟨by (with_reducible repeat (first | refine blk_drewN ?_ _ | refine blk_drew ?_ | refine blk_alloc ?_ _)); refine blk_far ?_ (by have h_ := Kd.R_ne HO161.out BK155.out (by decide); intro e_; exact h_ (by rw [e_]; rfl)) _; (with_reducible repeat (first | refine blk_drewN ?_ _ | refine blk_drew ?_ | refine blk_alloc ?_ _)); exact BK155.out⟩
    have n4_ : Aside0 (Below w.heap.size w (w22.setCell ⟨go8, (t162 : Int).toNat * 4 + 2, none⟩ (.int .i64 a2))) := ⟨by repeat (first | (with_reducible first | exact HB.out | apply below_alloc | apply pw_below_drewN | apply below_drew1 | refine below_set ?_ GB8.out | refine below_set ?_ GE153.out | refine below_set ?_ GE154.out | refine below_set ?_ GE155.out) | exact HB.out)⟩
    (try clear HO161)
    (try clear BK153)
    (try clear BK154)
    (try clear BK155)
    (try clear HB)
    generalize (w22.setCell ⟨go8, (t162 : Int).toNat * 4 + 2, none⟩ (.int .i64 a2)) = w24 at n0_ n1_ n2_ n3_ n4_ ⊢
    have HO161 := n0_
    have BK153 := n1_
    have BK154 := n2_
    have BK155 := n3_
    have HB := n4_
    clear n0_ n1_ n2_ n3_ n4_
    have hcz25_0 : w24.cell? ⟨gb153, 0, none⟩ = some (.int .i64 a0_0) := (blk_cell BK153.out 0).trans rfl
    have hcz25_1 : w24.cell? ⟨gb153, 1, none⟩ = some (.slice (some ⟨go8, 0, none⟩) y159.length co18) := (blk_cell BK153.out 1).trans rfl
    have hfz25_0 := blk_frozen BK153.out 0
    have hfz25_1 := blk_frozen BK153.out 1
    have hnb26 := NB155_154.out
    have hnc26 := NB154_155.out
    have hcz27_0 : w24.cell? ⟨gb155, 0, none⟩ = some (.int .i64 0) := (blk_cell BK155.out 0).trans rfl
    have hcz27_1 : w24.cell? ⟨gb155, 1, none⟩ = some (.slice none 0 0) := (blk_cell BK155.out 1).trans rfl
    have hfz27_0 := blk_frozen BK155.out 0
    have hfz27_1 := blk_frozen BK155.out 1
    try go_wp2
    refine bodyPost_ret (results_cell_row rfl _ _ gb155 43 #[.int .i64 a0_0, .slice (some ⟨go8, 0, none⟩) y159.length co18] (0, 0) _ rfl (by (with_reducible repeat (first | refine blk_drewN ?_ _ | refine blk_drew ?_ | refine blk_alloc ?_ _)); refine blk_put (cs := #[.int .i64 a0_0, .slice none 0 0]) ?_ 1 _ rfl; (with_reducible repeat (first | refine blk_drewN ?_ _ | refine blk_drew ?_ | refine blk_alloc ?_ _)); refine blk_put (cs := #[.int .i64 0, .slice none 0 0]) ?_ 0 _ rfl; (with_reducible repeat (first | refine blk_drewN ?_ _ | refine blk_drew ?_ | refine blk_alloc ?_ _)); exact BK155.out) Try.underlying43 rfl (by kernel_rfl)) rfl ?_
    exact ⟨_, by first | rfl | (simp [errW_none, errW_some] <;> rfl) | (simp [*, errW_none, errW_some] <;> rfl), by (with_reducible repeat (first | apply Kd.R_alloc | apply Kd.R_drewN | apply Kd.R_drew)); exact Kd.R_mono (Kd.R_far (p := ⟨gb155, 1, none⟩) (Kd.R_far (p := ⟨gb155, 0, none⟩) (Kd.R_types HO161.out BK155.out (by decide)) (fun _ hk => hk.2) (.int .i64 a0_0)) (fun _ hk => hk.2) (.slice (some ⟨go8, 0, none⟩) y159.length co18)) (fun _ hk => trivial), by repeat (first | (with_reducible first | exact HB.out | apply below_alloc | apply pw_below_drewN | apply below_drew1 | refine below_set ?_ GE153.out | refine below_set ?_ GE154.out | refine below_set ?_ GE155.out) | exact HB.out)⟩
   ·rw [if_neg c7] at H
    exact absurd H (by simp)
  ·rw [if_neg c6] at H
   exact absurd H (by simp)
 ·rw [if_neg c4] at H
  exact absurd H (by simp)
def knellref12_free.l0 : Nat → Int → Int → List (S127) → Int → Int → Option (Bool)
 | 0, _, _, _, _, _ => none
 | k + 1, x5, x165000, x165001, x166000, x166001 => if x5 < (x165001.length : Int) then (if 0 ≤ x5 then (if ((rd_T127 x165001 x5).f0.f0) = x166000 then (if ((rd_T127 x165001 x5).f1) = 1 then (some false) else (if ((rd_T127 x165001 x5).f0.f1) ≥ x166001 then (some false) else (knellref12_free.l0 k (wrap64 (x5 + 1)) x165000 x165001 x166000 x166001))) else (knellref12_free.l0 k (wrap64 (x5 + 1)) x165000 x165001 x166000 x166001)) else (none)) else (some true)
def knellref12_free.f (k : Nat) (a0_0 : Int) (l0_1 : List (S127)) (a1_0 : Int) (a1_1 : Int) : Option (Bool) := knellref12_free.l0 k 0 a0_0 l0_1 a1_0 a1_1
set_option maxHeartbeats 8000000 in
set_option maxRecDepth 100000 in
theorem knellref12_free.calls (k : Nat) (a0_0 : Int) (A0_1 : Option Addr) (c0_1 : Nat) (l0_1 : List (S127)) (a1_0 : Int) (a1_1 : Int) (r : Bool) (w : World) (hr0_1 : Kd.C k127 w A0_1 l0_1.length l0_1) (hc0_1 : l0_1.length ≤ c0_1) (h : knellref12_free.f k a0_0 l0_1 a1_0 a1_1 = some r) :
  Calls Try.prog 80 #[.agg #[.int .i64 a0_0, .slice A0_1 l0_1.length c0_1], .agg #[.int .i64 a1_0, .int .i64 a1_1]] w fun e w' => e = .returned (.bool r) ∧ Below w.heap.size w w' := by
 have hu43 := Try.underlying43
 have hu36 := Try.underlying36
 have HR0_1 := Aside0.mk hr0_1
 have HC0_1 := Aside0.mk hc0_1
 clear hr0_1 hc0_1
 have HB := Aside0.mk (Below.refl w.heap.size w)
 have H : (knellref12_free.l0 k 0 a0_0 l0_1 a1_0 a1_1) = some r := h
 clear h
 have H' := Aside0.mk H
 clear H
 go_enter Try.func80, Try.ntmps80
 go_wp2_with (first | ((with_reducible refine gate_dst (N := 2) rfl ?_); refine box_event ?hg (N := 2) ?hd (cs := #[.int .i64 a0_0, .slice A0_1 l0_1.length c0_1]) (t := 43) ?hr ?_; (case hd => rfl); (case hg => rfl); (case hr => first | (go_simp; done) | (go_simp; rfl)); intro gb164 hg w3 hbox hb; have n0_ := Aside0.mk (below_step (by repeat (first | (with_reducible first | exact HB.out | apply below_alloc | apply pw_below_drewN | apply below_drew1) | exact HB.out)) hb); have n1_ := Aside0.mk (hbox); have n2_ := Aside0.mk ((by rw [hg]; exact (below_size (by repeat (first | (with_reducible first | exact HB.out | apply below_alloc | apply pw_below_drewN | apply below_drew1) | exact HB.out))) : w.heap.size ≤ gb164)); have n3_ := Aside0.mk ((by rw [hg]; exact (below_size (by repeat (first | (with_reducible first | exact HB.out | apply below_alloc | apply pw_below_drewN | apply below_drew1) | exact HB.out))) : w.heap.size ≤ gb164)); clear HB; have HB := n0_; have BK164 := n1_; have GW164 := n2_; have GE164 := n3_; clear n0_ n1_ n2_ n3_; clear hb hbox hg) | ((with_reducible refine gate_dst (N := 3) rfl ?_); refine box_event ?hg (N := 3) ?hd (cs := #[.int .i64 a1_0, .int .i64 a1_1]) (t := 36) ?hr ?_; (case hd => rfl); (case hg => rfl); (case hr => first | (go_simp; done) | (go_simp; rfl)); intro gb165 hg w4 hbox hb; have n0_ := Aside0.mk (blk_below (g := gb164) (o := .cells #[.int .i64 a0_0, .slice A0_1 l0_1.length c0_1] 43 (0, 0)) (by (with_reducible repeat (first | refine blk_drewN ?_ _ | refine blk_drew ?_ | refine blk_alloc ?_ _)); exact BK164.out) hb); have n1_ := Aside0.mk (below_step (by repeat (first | (with_reducible first | exact HB.out | apply below_alloc | apply pw_below_drewN | apply below_drew1 | refine below_set ?_ GE164.out) | exact HB.out)) hb); have n2_ := Aside0.mk (hbox); have n3_ := Aside0.mk ((by rw [hg]; exact (below_size (by repeat (first | (with_reducible first | exact HB.out | apply below_alloc | apply pw_below_drewN | apply below_drew1 | refine below_set ?_ GE164.out) | exact HB.out))) : w.heap.size ≤ gb165)); have n4_ := Aside0.mk ((by rw [hg]; exact (below_size (by repeat (first | (with_reducible first | exact HB.out | apply below_alloc | apply pw_below_drewN | apply below_drew1 | refine below_set ?_ GE164.out) | exact HB.out))) : w.heap.size ≤ gb165)); have n5_ := Aside0.mk ((by rw [hg]; exact Nat.ne_of_lt (blk_lt (g := gb164) (o := .cells #[.int .i64 a0_0, .slice A0_1 l0_1.length c0_1] 43 (0, 0)) (by (with_reducible repeat (first | refine blk_drewN ?_ _ | refine blk_drew ?_ | refine blk_alloc ?_ _)); exact BK164.out)) : gb164 ≠ gb165)); have n6_ := Aside0.mk ((by rw [hg]; exact Nat.ne_of_gt (blk_lt (g := gb164) (o := .cells #[.int .i64 a0_0, .slice A0_1 l0_1.length c0_1] 43 (0, 0)) (by (with_reducible repeat (first | refine blk_drewN ?_ _ | refine blk_drew ?_ | refine blk_alloc ?_ _)); exact BK164.out)) : gb165 ≠ gb164)); clear BK164; clear HB; have BK164 := n0_; have HB := n1_; have BK165 := n2_; have GW165 := n3_; have GE165 := n4_; have NB164_165 := n5_; have NB165_164 := n6_; clear n0_ n1_ n2_ n3_ n4_ n5_ n6_; clear hb hbox hg))
 repeat (go_quiet (first | ((with_reducible refine gate_dst (N := 2) rfl ?_); refine box_event ?hg (N := 2) ?hd (cs := #[.int .i64 a0_0, .slice A0_1 l0_1.length c0_1]) (t := 43) ?hr ?_; (case hd => rfl); (case hg => rfl); (case hr => first | (go_simp; done) | (go_simp; rfl)); intro gb164 hg w3 hbox hb; have n0_ := Aside0.mk (below_step (by repeat (first | (with_reducible first | exact HB.out | apply below_alloc | apply pw_below_drewN | apply below_drew1) | exact HB.out)) hb); have n1_ := Aside0.mk (hbox); have n2_ := Aside0.mk ((by rw [hg]; exact (below_size (by repeat (first | (with_reducible first | exact HB.out | apply below_alloc | apply pw_below_drewN | apply below_drew1) | exact HB.out))) : w.heap.size ≤ gb164)); have n3_ := Aside0.mk ((by rw [hg]; exact (below_size (by repeat (first | (with_reducible first | exact HB.out | apply below_alloc | apply pw_below_drewN | apply below_drew1) | exact HB.out))) : w.heap.size ≤ gb164)); clear HB; have HB := n0_; have BK164 := n1_; have GW164 := n2_; have GE164 := n3_; clear n0_ n1_ n2_ n3_; clear hb hbox hg) | ((with_reducible refine gate_dst (N := 3) rfl ?_); refine box_event ?hg (N := 3) ?hd (cs := #[.int .i64 a1_0, .int .i64 a1_1]) (t := 36) ?hr ?_; (case hd => rfl); (case hg => rfl); (case hr => first | (go_simp; done) | (go_simp; rfl)); intro gb165 hg w4 hbox hb; have n0_ := Aside0.mk (blk_below (g := gb164) (o := .cells #[.int .i64 a0_0, .slice A0_1 l0_1.length c0_1] 43 (0, 0)) (by (with_reducible repeat (first | refine blk_drewN ?_ _ | refine blk_drew ?_ | refine blk_alloc ?_ _)); exact BK164.out) hb); have n1_ := Aside0.mk (below_step (by repeat (first | (with_reducible first | exact HB.out | apply below_alloc | apply pw_below_drewN | apply below_drew1 | refine below_set ?_ GE164.out) | exact HB.out)) hb); have n2_ := Aside0.mk (hbox); have n3_ := Aside0.mk ((by rw [hg]; exact (below_size (by repeat (first | (with_reducible first | exact HB.out | apply below_alloc | apply pw_below_drewN | apply below_drew1 | refine below_set ?_ GE164.out) | exact HB.out))) : w.heap.size ≤ gb165)); have n4_ := Aside0.mk ((by rw [hg]; exact (below_size (by repeat (first | (with_reducible first | exact HB.out | apply below_alloc | apply pw_below_drewN | apply below_drew1 | refine below_set ?_ GE164.out) | exact HB.out))) : w.heap.size ≤ gb165)); have n5_ := Aside0.mk ((by rw [hg]; exact Nat.ne_of_lt (blk_lt (g := gb164) (o := .cells #[.int .i64 a0_0, .slice A0_1 l0_1.length c0_1] 43 (0, 0)) (by (with_reducible repeat (first | refine blk_drewN ?_ _ | refine blk_drew ?_ | refine blk_alloc ?_ _)); exact BK164.out)) : gb164 ≠ gb165)); have n6_ := Aside0.mk ((by rw [hg]; exact Nat.ne_of_gt (blk_lt (g := gb164) (o := .cells #[.int .i64 a0_0, .slice A0_1 l0_1.length c0_1] 43 (0, 0)) (by (with_reducible repeat (first | refine blk_drewN ?_ _ | refine blk_drew ?_ | refine blk_alloc ?_ _)); exact BK164.out)) : gb165 ≠ gb164)); clear BK164; clear HB; have BK164 := n0_; have HB := n1_; have BK165 := n2_; have GW165 := n3_; have GE165 := n4_; have NB164_165 := n5_; have NB165_164 := n6_; clear n0_ n1_ n2_ n3_ n4_ n5_ n6_; clear hb hbox hg)); try go_wp2_with (first | ((with_reducible refine gate_dst (N := 2) rfl ?_); refine box_event ?hg (N := 2) ?hd (cs := #[.int .i64 a0_0, .slice A0_1 l0_1.length c0_1]) (t := 43) ?hr ?_; (case hd => rfl); (case hg => rfl); (case hr => first | (go_simp; done) | (go_simp; rfl)); intro gb164 hg w3 hbox hb; have n0_ := Aside0.mk (below_step (by repeat (first | (with_reducible first | exact HB.out | apply below_alloc | apply pw_below_drewN | apply below_drew1) | exact HB.out)) hb); have n1_ := Aside0.mk (hbox); have n2_ := Aside0.mk ((by rw [hg]; exact (below_size (by repeat (first | (with_reducible first | exact HB.out | apply below_alloc | apply pw_below_drewN | apply below_drew1) | exact HB.out))) : w.heap.size ≤ gb164)); have n3_ := Aside0.mk ((by rw [hg]; exact (below_size (by repeat (first | (with_reducible first | exact HB.out | apply below_alloc | apply pw_below_drewN | apply below_drew1) | exact HB.out))) : w.heap.size ≤ gb164)); clear HB; have HB := n0_; have BK164 := n1_; have GW164 := n2_; have GE164 := n3_; clear n0_ n1_ n2_ n3_; clear hb hbox hg) | ((with_reducible refine gate_dst (N := 3) rfl ?_); refine box_event ?hg (N := 3) ?hd (cs := #[.int .i64 a1_0, .int .i64 a1_1]) (t := 36) ?hr ?_; (case hd => rfl); (case hg => rfl); (case hr => first | (go_simp; done) | (go_simp; rfl)); intro gb165 hg w4 hbox hb; have n0_ := Aside0.mk (blk_below (g := gb164) (o := .cells #[.int .i64 a0_0, .slice A0_1 l0_1.length c0_1] 43 (0, 0)) (by (with_reducible repeat (first | refine blk_drewN ?_ _ | refine blk_drew ?_ | refine blk_alloc ?_ _)); exact BK164.out) hb); have n1_ := Aside0.mk (below_step (by repeat (first | (with_reducible first | exact HB.out | apply below_alloc | apply pw_below_drewN | apply below_drew1 | refine below_set ?_ GE164.out) | exact HB.out)) hb); have n2_ := Aside0.mk (hbox); have n3_ := Aside0.mk ((by rw [hg]; exact (below_size (by repeat (first | (with_reducible first | exact HB.out | apply below_alloc | apply pw_below_drewN | apply below_drew1 | refine below_set ?_ GE164.out) | exact HB.out))) : w.heap.size ≤ gb165)); have n4_ := Aside0.mk ((by rw [hg]; exact (below_size (by repeat (first | (with_reducible first | exact HB.out | apply below_alloc | apply pw_below_drewN | apply below_drew1 | refine below_set ?_ GE164.out) | exact HB.out))) : w.heap.size ≤ gb165)); have n5_ := Aside0.mk ((by rw [hg]; exact Nat.ne_of_lt (blk_lt (g := gb164) (o := .cells #[.int .i64 a0_0, .slice A0_1 l0_1.length c0_1] 43 (0, 0)) (by (with_reducible repeat (first | refine blk_drewN ?_ _ | refine blk_drew ?_ | refine blk_alloc ?_ _)); exact BK164.out)) : gb164 ≠ gb165)); have n6_ := Aside0.mk ((by rw [hg]; exact Nat.ne_of_gt (blk_lt (g := gb164) (o := .cells #[.int .i64 a0_0, .slice A0_1 l0_1.length c0_1] 43 (0, 0)) (by (with_reducible repeat (first | refine blk_drewN ?_ _ | refine blk_drew ?_ | refine blk_alloc ?_ _)); exact BK164.out)) : gb165 ≠ gb164)); clear BK164; clear HB; have BK164 := n0_; have HB := n1_; have BK165 := n2_; have GW165 := n3_; have GE165 := n4_; have NB164_165 := n5_; have NB165_164 := n6_; clear n0_ n1_ n2_ n3_ n4_ n5_ n6_; clear hb hbox hg)))
 go_loopg [5] k (fun kq v5 w' => ∃ (x5_1 : Int), v5 = .int .i64 x5_1 ∧ Aside0 (knellref12_free.l0 kq x5_1 a0_0 l0_1 a1_0 a1_1 = some r) ∧ Aside0 (kq ≤ k) ∧ Aside0 (w'.heap[gb164]? = some (.cells #[.int .i64 a0_0, (.slice A0_1 l0_1.length c0_1)] 43 (0, 0))) ∧ Aside0 (w'.heap[gb165]? = some (.cells #[.int .i64 a1_0, .int .i64 a1_1] 36 (0, 0))) ∧ Aside0 (Below w.heap.size w w'))
 case atStart => exact ⟨(0), (by first | rfl | (simp; done) | (simp [*]; done)), H', ⟨Nat.le_refl _⟩, ⟨by (with_reducible repeat (first | refine blk_drewN ?_ _ | refine blk_drew ?_ | refine blk_alloc ?_ _)); exact BK164.out⟩, ⟨by (with_reducible repeat (first | refine blk_drewN ?_ _ | refine blk_drew ?_ | refine blk_alloc ?_ _)); exact BK165.out⟩, ⟨by repeat (first | (with_reducible first | exact HB.out | apply below_alloc | apply pw_below_drewN | apply below_drew1 | refine below_set ?_ GE164.out | refine below_set ?_ GE165.out) | exact HB.out)⟩⟩
 case round =>
  clear H'
  try clear p2
  obtain ⟨x5_1, rfl, HA, HK1, BK164, BK165, HB⟩ := hrel
  cases gk with
  | zero => exact absurd HA.out (by simp [knellref12_free.l0])
  | succ k1 =>
   have H := HA.out
   clear HA
   simp only [knellref12_free.l0] at H
   by_cases c5 : x5_1 < (l0_1.length : Int)
   ·rw [if_pos c5] at H
    have c5b0 : decide (x5_1 < (l0_1.length : Int)) = true := decide_eq_true c5
    clear c5
    by_cases c6 : 0 ≤ x5_1
    ·rw [if_pos c6] at H
     have c6b0 : decide (0 ≤ x5_1) = true := decide_eq_true c6
     clear c6
     by_cases c7 : ((rd_T127 l0_1 x5_1).f0.f0) = a1_0
     ·rw [if_pos c7] at H
      have c7b0 : (((rd_T127 l0_1 x5_1).f0.f0) == a1_0) = true := beq_iff_eq.mpr c7
      have c7b1 : (((rd_T127 l0_1 x5_1).f0.f0) != a1_0) = false := bne_eq_false_iff_eq.mpr c7
      clear c7
      by_cases c8 : ((rd_T127 l0_1 x5_1).f1) = 1
      ·rw [if_pos c8] at H
       have c8b0 : (((rd_T127 l0_1 x5_1).f1) == 1) = true := beq_iff_eq.mpr c8
       have c8b1 : (((rd_T127 l0_1 x5_1).f1) != 1) = false := bne_eq_false_iff_eq.mpr c8
       clear c8
       obtain rfl := Option.some.inj H
       have hnb9 := NB164_165.out
       have hnc9 := NB165_164.out
       have hcz10_0 : wr.cell? ⟨gb164, 0, none⟩ = some (.int .i64 a0_0) := (blk_cell BK164.out 0).trans rfl
       have hcz10_1 : wr.cell? ⟨gb164, 1, none⟩ = some (.slice A0_1 l0_1.length c0_1) := (blk_cell BK164.out 1).trans rfl
       have hfz10_0 := blk_frozen BK164.out 0
       have hfz10_1 := blk_frozen BK164.out 1
       have p166 : 0 ≤ (x5_1 : Int) := of_decide_eq_true (by first | (with_reducible assumption) | assumption)
       have q166 : x5_1 < (l0_1.length : Int) := of_decide_eq_true (by first | (with_reducible assumption) | assumption)
       obtain ⟨ad166, e166, hx166_0, hx166_1, hx166_2, hx166_3⟩ := at_T127 HR0_1.out x5_1 p166 q166
       cases e166
       replace hx166_0 := (HB.out.cell (World.block_lt_of_cell? w _ hx166_0)).trans hx166_0
       replace hx166_1 := (HB.out.cell (World.block_lt_of_cell? w _ hx166_1)).trans hx166_1
       replace hx166_2 := (HB.out.cell (World.block_lt_of_cell? w _ hx166_2)).trans hx166_2
       replace hx166_3 := (HB.out.cell (World.block_lt_of_cell? w _ hx166_3)).trans hx166_3
       replace p166 := eq_true p166
       replace q166 := eq_true q166
       have hcz11_0 : wr.cell? ⟨gb165, 0, none⟩ = some (.int .i64 a1_0) := (blk_cell BK165.out 0).trans rfl
       have hcz11_1 : wr.cell? ⟨gb165, 1, none⟩ = some (.int .i64 a1_1) := (blk_cell BK165.out 1).trans rfl
       have hfz11_0 := blk_frozen BK165.out 0
       have hfz11_1 := blk_frozen BK165.out 1
       have p167 : 0 ≤ (x5_1 : Int) := of_decide_eq_true (by first | (with_reducible assumption) | assumption)
       have q167 : x5_1 < (l0_1.length : Int) := of_decide_eq_true (by first | (with_reducible assumption) | assumption)
       obtain ⟨ad167, e167, hx167_0, hx167_1, hx167_2, hx167_3⟩ := at_T127 HR0_1.out x5_1 p167 q167
       obtain rfl : ad166 = ad167 := (by injection e167)
       replace hx167_0 := (HB.out.cell (World.block_lt_of_cell? w _ hx167_0)).trans hx167_0
       replace hx167_1 := (HB.out.cell (World.block_lt_of_cell? w _ hx167_1)).trans hx167_1
       replace hx167_2 := (HB.out.cell (World.block_lt_of_cell? w _ hx167_2)).trans hx167_2
       replace hx167_3 := (HB.out.cell (World.block_lt_of_cell? w _ hx167_3)).trans hx167_3
       replace p167 := eq_true p167
       replace q167 := eq_true q167
       go_wp2
       repeat (go_quiet (fail); try go_wp2)
       go_ret
       exact ⟨by first | rfl | (simp [errW_none, errW_some] <;> rfl) | (simp [*, errW_none, errW_some] <;> rfl), by repeat (first | (with_reducible first | exact HB.out | apply below_alloc | apply pw_below_drewN | apply below_drew1 | refine below_set ?_ GE164.out | refine below_set ?_ GE165.out) | exact HB.out)⟩
      ·rw [if_neg c8] at H
       have c8b0 : (((rd_T127 l0_1 x5_1).f1) == 1) = false := beq_eq_false_iff_ne.mpr c8
       have c8b1 : (((rd_T127 l0_1 x5_1).f1) != 1) = true := bne_iff_ne.mpr c8
       by_cases c12 : ((rd_T127 l0_1 x5_1).f0.f1) ≥ a1_1
       ·rw [if_pos c12] at H
        have c12b0 : decide (a1_1 ≤ ((rd_T127 l0_1 x5_1).f0.f1)) = true := decide_eq_true c12
        clear c12
        obtain rfl := Option.some.inj H
        have hnb13 := NB164_165.out
        have hnc13 := NB165_164.out
        have hcz14_0 : wr.cell? ⟨gb164, 0, none⟩ = some (.int .i64 a0_0) := (blk_cell BK164.out 0).trans rfl
        have hcz14_1 : wr.cell? ⟨gb164, 1, none⟩ = some (.slice A0_1 l0_1.length c0_1) := (blk_cell BK164.out 1).trans rfl
        have hfz14_0 := blk_frozen BK164.out 0
        have hfz14_1 := blk_frozen BK164.out 1
        have p166 : 0 ≤ (x5_1 : Int) := of_decide_eq_true (by first | (with_reducible assumption) | assumption)
        have q166 : x5_1 < (l0_1.length : Int) := of_decide_eq_true (by first | (with_reducible assumption) | assumption)
        obtain ⟨ad166, e166, hx166_0, hx166_1, hx166_2, hx166_3⟩ := at_T127 HR0_1.out x5_1 p166 q166
        cases e166
        replace hx166_0 := (HB.out.cell (World.block_lt_of_cell? w _ hx166_0)).trans hx166_0
        replace hx166_1 := (HB.out.cell (World.block_lt_of_cell? w _ hx166_1)).trans hx166_1
        replace hx166_2 := (HB.out.cell (World.block_lt_of_cell? w _ hx166_2)).trans hx166_2
        replace hx166_3 := (HB.out.cell (World.block_lt_of_cell? w _ hx166_3)).trans hx166_3
        replace p166 := eq_true p166
        replace q166 := eq_true q166
        have hcz15_0 : wr.cell? ⟨gb165, 0, none⟩ = some (.int .i64 a1_0) := (blk_cell BK165.out 0).trans rfl
        have hcz15_1 : wr.cell? ⟨gb165, 1, none⟩ = some (.int .i64 a1_1) := (blk_cell BK165.out 1).trans rfl
        have hfz15_0 := blk_frozen BK165.out 0
        have hfz15_1 := blk_frozen BK165.out 1
        have p167 : 0 ≤ (x5_1 : Int) := of_decide_eq_true (by first | (with_reducible assumption) | assumption)
        have q167 : x5_1 < (l0_1.length : Int) := of_decide_eq_true (by first | (with_reducible assumption) | assumption)
        obtain ⟨ad167, e167, hx167_0, hx167_1, hx167_2, hx167_3⟩ := at_T127 HR0_1.out x5_1 p167 q167
        obtain rfl : ad166 = ad167 := (by injection e167)
        replace hx167_0 := (HB.out.cell (World.block_lt_of_cell? w _ hx167_0)).trans hx167_0
        replace hx167_1 := (HB.out.cell (World.block_lt_of_cell? w _ hx167_1)).trans hx167_1
        replace hx167_2 := (HB.out.cell (World.block_lt_of_cell? w _ hx167_2)).trans hx167_2
        replace hx167_3 := (HB.out.cell (World.block_lt_of_cell? w _ hx167_3)).trans hx167_3
        replace p167 := eq_true p167
        replace q167 := eq_true q167
        have p168 : 0 ≤ (x5_1 : Int) := of_decide_eq_true (by first | (with_reducible assumption) | assumption)
        have q168 : x5_1 < (l0_1.length : Int) := of_decide_eq_true (by first | (with_reducible assumption) | assumption)
        obtain ⟨ad168, e168, hx168_0, hx168_1, hx168_2, hx168_3⟩ := at_T127 HR0_1.out x5_1 p168 q168
        obtain rfl : ad166 = ad168 := (by injection e168)
        replace hx168_0 := (HB.out.cell (World.block_lt_of_cell? w _ hx168_0)).trans hx168_0
        replace hx168_1 := (HB.out.cell (World.block_lt_of_cell? w _ hx168_1)).trans hx168_1
        replace hx168_2 := (HB.out.cell (World.block_lt_of_cell? w _ hx168_2)).trans hx168_2
        replace hx168_3 := (HB.out.cell (World.block_lt_of_cell? w _ hx168_3)).trans hx168_3
        replace p168 := eq_true p168
        replace q168 := eq_true q168
        go_wp2
        repeat (go_quiet (fail); try go_wp2)
        go_ret
        exact ⟨by first | rfl | (simp [errW_none, errW_some] <;> rfl) | (simp [*, errW_none, errW_some] <;> rfl), by repeat (first | (with_reducible first | exact HB.out | apply below_alloc | apply pw_below_drewN | apply below_drew1 | refine below_set ?_ GE164.out | refine below_set ?_ GE165.out) | exact HB.out)⟩
       ·rw [if_neg c12] at H
        have c12b0 : decide (a1_1 ≤ ((rd_T127 l0_1 x5_1).f0.f1)) = false := decide_eq_false c12
        clear c12
        have H' := Aside0.mk H
        clear H
        have hnb16 := NB164_165.out
        have hnc16 := NB165_164.out
        have hcz17_0 : wr.cell? ⟨gb164, 0, none⟩ = some (.int .i64 a0_0) := (blk_cell BK164.out 0).trans rfl
        have hcz17_1 : wr.cell? ⟨gb164, 1, none⟩ = some (.slice A0_1 l0_1.length c0_1) := (blk_cell BK164.out 1).trans rfl
        have hfz17_0 := blk_frozen BK164.out 0
        have hfz17_1 := blk_frozen BK164.out 1
        have p166 : 0 ≤ (x5_1 : Int) := of_decide_eq_true (by first | (with_reducible assumption) | assumption)
        have q166 : x5_1 < (l0_1.length : Int) := of_decide_eq_true (by first | (with_reducible assumption) | assumption)
        obtain ⟨ad166, e166, hx166_0, hx166_1, hx166_2, hx166_3⟩ := at_T127 HR0_1.out x5_1 p166 q166
        cases e166
        replace hx166_0 := (HB.out.cell (World.block_lt_of_cell? w _ hx166_0)).trans hx166_0
        replace hx166_1 := (HB.out.cell (World.block_lt_of_cell? w _ hx166_1)).trans hx166_1
        replace hx166_2 := (HB.out.cell (World.block_lt_of_cell? w _ hx166_2)).trans hx166_2
        replace hx166_3 := (HB.out.cell (World.block_lt_of_cell? w _ hx166_3)).trans hx166_3
        replace p166 := eq_true p166
        replace q166 := eq_true q166
        have hcz18_0 : wr.cell? ⟨gb165, 0, none⟩ = some (.int .i64 a1_0) := (blk_cell BK165.out 0).trans rfl
        have hcz18_1 : wr.cell? ⟨gb165, 1, none⟩ = some (.int .i64 a1_1) := (blk_cell BK165.out 1).trans rfl
        have hfz18_0 := blk_frozen BK165.out 0
        have hfz18_1 := blk_frozen BK165.out 1
        have p167 : 0 ≤ (x5_1 : Int) := of_decide_eq_true (by first | (with_reducible assumption) | assumption)
        have q167 : x5_1 < (l0_1.length : Int) := of_decide_eq_true (by first | (with_reducible assumption) | assumption)
        obtain ⟨ad167, e167, hx167_0, hx167_1, hx167_2, hx167_3⟩ := at_T127 HR0_1.out x5_1 p167 q167
        obtain rfl : ad166 = ad167 := (by injection e167)
        replace hx167_0 := (HB.out.cell (World.block_lt_of_cell? w _ hx167_0)).trans hx167_0
        replace hx167_1 := (HB.out.cell (World.block_lt_of_cell? w _ hx167_1)).trans hx167_1
        replace hx167_2 := (HB.out.cell (World.block_lt_of_cell? w _ hx167_2)).trans hx167_2
        replace hx167_3 := (HB.out.cell (World.block_lt_of_cell? w _ hx167_3)).trans hx167_3
        replace p167 := eq_true p167
        replace q167 := eq_true q167
        have p168 : 0 ≤ (x5_1 : Int) := of_decide_eq_true (by first | (with_reducible assumption) | assumption)
        have q168 : x5_1 < (l0_1.length : Int) := of_decide_eq_true (by first | (with_reducible assumption) | assumption)
        obtain ⟨ad168, e168, hx168_0, hx168_1, hx168_2, hx168_3⟩ := at_T127 HR0_1.out x5_1 p168 q168
        obtain rfl : ad166 = ad168 := (by injection e168)
        replace hx168_0 := (HB.out.cell (World.block_lt_of_cell? w _ hx168_0)).trans hx168_0
        replace hx168_1 := (HB.out.cell (World.block_lt_of_cell? w _ hx168_1)).trans hx168_1
        replace hx168_2 := (HB.out.cell (World.block_lt_of_cell? w _ hx168_2)).trans hx168_2
        replace hx168_3 := (HB.out.cell (World.block_lt_of_cell? w _ hx168_3)).trans hx168_3
        replace p168 := eq_true p168
        replace q168 := eq_true q168
        go_wp2
        repeat (go_quiet (fail); try go_wp2)
        go_roundg k1
        case measure => have := HK1.out; omega
        case rel => exact ⟨(wrap64 (x5_1 + 1)), (by first | rfl | (simp; done) | (simp [*]; done)), H', ⟨by have := HK1.out; omega⟩, ⟨by (with_reducible repeat (first | refine blk_drewN ?_ _ | refine blk_drew ?_ | refine blk_alloc ?_ _)); exact BK164.out⟩, ⟨by (with_reducible repeat (first | refine blk_drewN ?_ _ | refine blk_drew ?_ | refine blk_alloc ?_ _)); exact BK165.out⟩, ⟨by repeat (first | (with_reducible first | exact HB.out | apply below_alloc | apply pw_below_drewN | apply below_drew1 | refine below_set ?_ GE164.out | refine below_set ?_ GE165.out) | exact HB.out)⟩⟩
     ·rw [if_neg c7] at H
      have c7b0 : (((rd_T127 l0_1 x5_1).f0.f0) == a1_0) = false := beq_eq_false_iff_ne.mpr c7
      have c7b1 : (((rd_T127 l0_1 x5_1).f0.f0) != a1_0) = true := bne_iff_ne.mpr c7
      have H' := Aside0.mk H
      clear H
      have hnb19 := NB164_165.out
      have hnc19 := NB165_164.out
      have hcz20_0 : wr.cell? ⟨gb164, 0, none⟩ = some (.int .i64 a0_0) := (blk_cell BK164.out 0).trans rfl
      have hcz20_1 : wr.cell? ⟨gb164, 1, none⟩ = some (.slice A0_1 l0_1.length c0_1) := (blk_cell BK164.out 1).trans rfl
      have hfz20_0 := blk_frozen BK164.out 0
      have hfz20_1 := blk_frozen BK164.out 1
      have p166 : 0 ≤ (x5_1 : Int) := of_decide_eq_true (by first | (with_reducible assumption) | assumption)
      have q166 : x5_1 < (l0_1.length : Int) := of_decide_eq_true (by first | (with_reducible assumption) | assumption)
      obtain ⟨ad166, e166, hx166_0, hx166_1, hx166_2, hx166_3⟩ := at_T127 HR0_1.out x5_1 p166 q166
      cases e166
      replace hx166_0 := (HB.out.cell (World.block_lt_of_cell? w _ hx166_0)).trans hx166_0
      replace hx166_1 := (HB.out.cell (World.block_lt_of_cell? w _ hx166_1)).trans hx166_1
      replace hx166_2 := (HB.out.cell (World.block_lt_of_cell? w _ hx166_2)).trans hx166_2
      replace hx166_3 := (HB.out.cell (World.block_lt_of_cell? w _ hx166_3)).trans hx166_3
      replace p166 := eq_true p166
      replace q166 := eq_true q166
      have hcz21_0 : wr.cell? ⟨gb165, 0, none⟩ = some (.int .i64 a1_0) := (blk_cell BK165.out 0).trans rfl
      have hcz21_1 : wr.cell? ⟨gb165, 1, none⟩ = some (.int .i64 a1_1) := (blk_cell BK165.out 1).trans rfl
      have hfz21_0 := blk_frozen BK165.out 0
      have hfz21_1 := blk_frozen BK165.out 1
      go_wp2
      repeat (go_quiet (fail); try go_wp2)
      go_roundg k1
      case measure => have := HK1.out; omega
      case rel => exact ⟨(wrap64 (x5_1 + 1)), (by first | rfl | (simp; done) | (simp [*]; done)), H', ⟨by have := HK1.out; omega⟩, ⟨by (with_reducible repeat (first | refine blk_drewN ?_ _ | refine blk_drew ?_ | refine blk_alloc ?_ _)); exact BK164.out⟩, ⟨by (with_reducible repeat (first | refine blk_drewN ?_ _ | refine blk_drew ?_ | refine blk_alloc ?_ _)); exact BK165.out⟩, ⟨by repeat (first | (with_reducible first | exact HB.out | apply below_alloc | apply pw_below_drewN | apply below_drew1 | refine below_set ?_ GE164.out | refine below_set ?_ GE165.out) | exact HB.out)⟩⟩
    ·rw [if_neg c6] at H
     exact absurd H (by simp)
   ·rw [if_neg c5] at H
    have c5b0 : decide (x5_1 < (l0_1.length : Int)) = false := decide_eq_false c5
    clear c5
    obtain rfl := Option.some.inj H
    have hnb22 := NB164_165.out
    have hnc22 := NB165_164.out
    have hcz23_0 : wr.cell? ⟨gb164, 0, none⟩ = some (.int .i64 a0_0) := (blk_cell BK164.out 0).trans rfl
    have hcz23_1 : wr.cell? ⟨gb164, 1, none⟩ = some (.slice A0_1 l0_1.length c0_1) := (blk_cell BK164.out 1).trans rfl
    have hfz23_0 := blk_frozen BK164.out 0
    have hfz23_1 := blk_frozen BK164.out 1
    go_wp2
    repeat (go_quiet (fail); try go_wp2)
    go_ret
    exact ⟨by first | rfl | (simp [errW_none, errW_some] <;> rfl) | (simp [*, errW_none, errW_some] <;> rfl), by repeat (first | (with_reducible first | exact HB.out | apply below_alloc | apply pw_below_drewN | apply below_drew1 | refine below_set ?_ GE164.out | refine below_set ?_ GE165.out) | exact HB.out)⟩
end Go.Proofs.Ythniclbmpeklmaa.KJf
end
