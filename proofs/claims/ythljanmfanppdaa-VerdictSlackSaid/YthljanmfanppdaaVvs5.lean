/- What is proved: a part of the way to the statement VerdictSlackSaid: KVsx2, VfA, VsB, VsC, Krow; no conditions. Put together by a program of this session (claimv.py). -/
import Derived.ChangeArms
import Derived.WideShapes
import Derived.OpenShut
import Derived.Deep.Slices
import Derived.Test.YthljanmfanppdaaVvs4
section
namespace Go.Proofs.Ythljanmfanppdaa.KVs
open Go.RowKit Go.Proofs.YthljanmfanppdaaW.PrintWords Go.Proofs.YthljanmfanppdaaW.PrintLast Go.Proofs.YthljanmfanppdaaW.PrintMore
attribute [local go_sem] max2_int min2_int max_two min_two max_three min_three max_four min_four   -- for this text's walks alone
set_option linter.unusedVariables false
set_option linter.unusedSimpArgs false
def knelllaw25_speaks.f  : Option (Bool) := (some (([(⟨2, 0, 1, 0, 0, 0, 0⟩ : S60), (⟨3, 0, 1, 0, 0, 0, 0⟩ : S60), (⟨5, 0, 1, 0, 0, 0, 0⟩ : S60), (⟨1, 0, 0, 0, 1, 0, 0⟩ : S60), (⟨2, 0, 6, 0, 0, 0, 0⟩ : S60)] : List (S60)) : List (S60))).bind fun y102 => ((verdict_Late.f y102 1 1 1 1 1 0 0 1 1 1 1 0 0).bind fun t105 => ((some (([(⟨5, 0, 6, 0, 0, 0, 0⟩ : S60)] : List (S60)) : List (S60))).bind fun y108 => (if y102.length + y108.length < 2513169434916 then ((verdict_Late.f (y102 ++ y108) 1 1 1 1 1 0 0 1 1 1 1 0 0).bind fun t114 => (if (t105.length : Int) = 0 then (if (t114.length : Int) = 1 then (if 0 < (t114.length : Int) then (some ((rd t114 0) == 0)) else (none)) else (some false)) else (some false))) else (none))))
def knelllaw25_speaks.T3 : Bool × List (List Nat × List Nat) := (true, [([], []), ([], []), ([0, 1], [0, 1]), ([], []), ([], []), ([4], [4]), ([3, 5, 2], [3, 5]), ([], []), ([6, 7, 6], [6, 7]), ([2, 8, 0, 1, 2], [2]), ([8, 9, 0, 1, 2, 3, 4, 5, 6, 7, 8, 9], [8])])
def knelllaw25_speaks.B3 : List Nat := [0, 0, 3, 0, 0, 16, 63, 0, 255, 511, 1023]
theorem knelllaw25_speaks.tab3 : rtab .any (opsOf Try.f44 3) = knelllaw25_speaks.T3 := by kernel_rfl
theorem knelllaw25_speaks.bits3 : waitsOk knelllaw25_speaks.T3.2 knelllaw25_speaks.B3 = true := by kernel_rfl
set_option maxHeartbeats 8000000 in
set_option maxRecDepth 100000 in
theorem knelllaw25_speaks.calls  (r : Bool) (w : World) (h : knelllaw25_speaks.f  = some r) :
  Calls Try.prog 44 #[] w fun e w' => e = .returned (.bool r) ∧ Below w.heap.size w w' := by
 have hu36 := Try.underlying36
 have hu60 := Try.underlying60
 have HB := Aside0.mk (Below.refl w.heap.size w)
 have H : ((some (([(⟨2, 0, 1, 0, 0, 0, 0⟩ : S60), (⟨3, 0, 1, 0, 0, 0, 0⟩ : S60), (⟨5, 0, 1, 0, 0, 0, 0⟩ : S60), (⟨1, 0, 0, 0, 1, 0, 0⟩ : S60), (⟨2, 0, 6, 0, 0, 0, 0⟩ : S60)] : List (S60)) : List (S60))).bind fun y102 => ((verdict_Late.f y102 1 1 1 1 1 0 0 1 1 1 1 0 0).bind fun t105 => ((some (([(⟨5, 0, 6, 0, 0, 0, 0⟩ : S60)] : List (S60)) : List (S60))).bind fun y108 => (if y102.length + y108.length < 2513169434916 then ((verdict_Late.f (y102 ++ y108) 1 1 1 1 1 0 0 1 1 1 1 0 0).bind fun t114 => (if (t105.length : Int) = 0 then (if (t114.length : Int) = 1 then (if 0 < (t114.length : Int) then (some ((rd t114 0) == 0)) else (none)) else (some false)) else (some false))) else (none))))) = some r := h
 clear h
 obtain ⟨y102, hy102⟩ : ∃ y_ : List (S60), y_ = (([(⟨2, 0, 1, 0, 0, 0, 0⟩ : S60), (⟨3, 0, 1, 0, 0, 0, 0⟩ : S60), (⟨5, 0, 1, 0, 0, 0, 0⟩ : S60), (⟨1, 0, 0, 0, 1, 0, 0⟩ : S60), (⟨2, 0, 6, 0, 0, 0, 0⟩ : S60)] : List (S60))) := ⟨_, rfl⟩
 replace H : ((verdict_Late.f y102 1 1 1 1 1 0 0 1 1 1 1 0 0).bind fun t105 => ((some (([(⟨5, 0, 6, 0, 0, 0, 0⟩ : S60)] : List (S60)) : List (S60))).bind fun y108 => (if y102.length + y108.length < 2513169434916 then ((verdict_Late.f (y102 ++ y108) 1 1 1 1 1 0 0 1 1 1 1 0 0).bind fun t114 => (if (t105.length : Int) = 0 then (if (t114.length : Int) = 1 then (if 0 < (t114.length : Int) then (some ((rd t114 0) == 0)) else (none)) else (some false)) else (some false))) else (none)))) = some r := by first | (rw [hy102]; with_reducible exact H) | (have H2_ := (Option.bind_some _ _).symm.trans H; rw [hy102]; with_reducible exact H2_) | (have H2_ := (Option.bind_some _ _).symm.trans H; with_reducible exact H2_) | with_reducible exact H | (rw [hy102]; exact H) | exact H
 have Ny102 := Aside0.mk hy102
 clear hy102
 replace H := Option.bind_eq_some_iff.mp H
 obtain ⟨t105, A10, H⟩ := H
 replace H : ((some (([(⟨5, 0, 6, 0, 0, 0, 0⟩ : S60)] : List (S60)) : List (S60))).bind fun y108 => (if y102.length + y108.length < 2513169434916 then ((verdict_Late.f (y102 ++ y108) 1 1 1 1 1 0 0 1 1 1 1 0 0).bind fun t114 => (if (t105.length : Int) = 0 then (if (t114.length : Int) = 1 then (if 0 < (t114.length : Int) then (some ((rd t114 0) == 0)) else (none)) else (some false)) else (some false))) else (none))) = some r := H
 have A1 := Aside0.mk A10
 clear A10
 obtain ⟨y108, hy108⟩ : ∃ y_ : List (S60), y_ = (([(⟨5, 0, 6, 0, 0, 0, 0⟩ : S60)] : List (S60))) := ⟨_, rfl⟩
 replace H : (if y102.length + y108.length < 2513169434916 then ((verdict_Late.f (y102 ++ y108) 1 1 1 1 1 0 0 1 1 1 1 0 0).bind fun t114 => (if (t105.length : Int) = 0 then (if (t114.length : Int) = 1 then (if 0 < (t114.length : Int) then (some ((rd t114 0) == 0)) else (none)) else (some false)) else (some false))) else (none)) = some r := by first | (rw [hy108]; with_reducible exact H) | (have H2_ := (Option.bind_some _ _).symm.trans H; rw [hy108]; with_reducible exact H2_) | (have H2_ := (Option.bind_some _ _).symm.trans H; with_reducible exact H2_) | with_reducible exact H | (rw [hy108]; exact H) | exact H
 have Ny108 := Aside0.mk hy108
 clear hy108
 by_cases c2 : y102.length + y108.length < 2513169434916
 ·rw [if_pos c2] at H
  have LMc2 := Aside0.mk c2
  clear c2
  obtain ⟨y111, hy111⟩ : ∃ y_ : List (S60), y_ = (y102 ++ y108) := ⟨_, rfl⟩
  replace H : ((verdict_Late.f y111 1 1 1 1 1 0 0 1 1 1 1 0 0).bind fun t114 => (if (t105.length : Int) = 0 then (if (t114.length : Int) = 1 then (if 0 < (t114.length : Int) then (some ((rd t114 0) == 0)) else (none)) else (some false)) else (some false))) = some r := by first | (rw [hy111]; with_reducible exact H) | (have H2_ := (Option.bind_some _ _).symm.trans H; rw [hy111]; with_reducible exact H2_) | (have H2_ := (Option.bind_some _ _).symm.trans H; with_reducible exact H2_) | with_reducible exact H | (rw [hy111]; exact H) | exact H
  have Ny111 := Aside0.mk hy111
  clear hy111
  replace H := Option.bind_eq_some_iff.mp H
  obtain ⟨t114, A30, H⟩ := H
  replace H : (if (t105.length : Int) = 0 then (if (t114.length : Int) = 1 then (if 0 < (t114.length : Int) then (some ((rd t114 0) == 0)) else (none)) else (some false)) else (some false)) = some r := H
  have A3 := Aside0.mk A30
  clear A30
  by_cases c4 : (t105.length : Int) = 0
  ·rw [if_pos c4] at H
   have c4b0 : ((t105.length : Int) == 0) = true := beq_iff_eq.mpr c4
   have c4b1 : ((t105.length : Int) != 0) = false := bne_eq_false_iff_eq.mpr c4
   clear c4
   by_cases c5 : (t114.length : Int) = 1
   ·rw [if_pos c5] at H
    have c5b0 : ((t114.length : Int) == 1) = true := beq_iff_eq.mpr c5
    have c5b1 : ((t114.length : Int) != 1) = false := bne_eq_false_iff_eq.mpr c5
    clear c5
    by_cases c6 : 0 < (t114.length : Int)
    ·rw [if_pos c6] at H
     have c6b0 : decide (0 < (t114.length : Int)) = true := decide_eq_true c6
     have c6b1 : decide (0 < t114.length) = true := decide_eq_true (by omega)
     clear c6
     obtain rfl := Option.some.inj H
     go_enter Try.func44, Try.ntmps44
     try go_wp2_with (first | ((with_reducible refine gate_dst (N := 1) rfl ?_); (try (refine gate_guard (by rfl) ?_; dsimp only)); refine box_event ?hg (N := 1) ?hd (cs := #[.int .i64 0, .int .i64 0, .int .i64 0, .int .i64 0, .int .i64 0, .int .i64 0, .int .i64 0, .int .i64 0, .int .i64 0, .int .i64 0, .int .i64 0, .int .i64 0, .int .i64 0]) (t := 36) ?hr ?_; (case hd => rfl); (case hg => rfl); (case hr => first | (go_simp; done) | (go_simp; rfl)); intro gb101 hg w7 hbox hb; have n0_ := Aside0.mk (below_step (by repeat (first | (with_reducible first | exact HB.out | apply below_alloc | apply pw_below_drewN | apply below_drew1) | exact HB.out)) hb); have n1_ := Aside0.mk (hbox); have n2_ := Aside0.mk ((by rw [hg]; exact (below_size (by repeat (first | (with_reducible first | exact HB.out | apply below_alloc | apply pw_below_drewN | apply below_drew1) | exact HB.out))) : w.heap.size ≤ gb101)); have n3_ := Aside0.mk ((by rw [hg]; exact (below_size (by repeat (first | (with_reducible first | exact HB.out | apply below_alloc | apply pw_below_drewN | apply below_drew1) | exact HB.out))) : w.heap.size ≤ gb101)); clear HB; have HB := n0_; have BK101 := n1_; have GW101 := n2_; have GE101 := n3_; clear n0_ n1_ n2_ n3_; clear hb hbox hg; have hcz8_0 : w7.cell? ⟨gb101, 0, none⟩ = some (.int .i64 0) := (blk_cell BK101.out 0).trans rfl; have hcz8_1 : w7.cell? ⟨gb101, 1, none⟩ = some (.int .i64 0) := (blk_cell BK101.out 1).trans rfl; have hcz8_2 : w7.cell? ⟨gb101, 2, none⟩ = some (.int .i64 0) := (blk_cell BK101.out 2).trans rfl; have hcz8_3 : w7.cell? ⟨gb101, 3, none⟩ = some (.int .i64 0) := (blk_cell BK101.out 3).trans rfl; have hcz8_4 : w7.cell? ⟨gb101, 4, none⟩ = some (.int .i64 0) := (blk_cell BK101.out 4).trans rfl; have hcz8_5 : w7.cell? ⟨gb101, 5, none⟩ = some (.int .i64 0) := (blk_cell BK101.out 5).trans rfl; have hcz8_6 : w7.cell? ⟨gb101, 6, none⟩ = some (.int .i64 0) := (blk_cell BK101.out 6).trans rfl; have hcz8_7 : w7.cell? ⟨gb101, 7, none⟩ = some (.int .i64 0) := (blk_cell BK101.out 7).trans rfl; have hcz8_8 : w7.cell? ⟨gb101, 8, none⟩ = some (.int .i64 0) := (blk_cell BK101.out 8).trans rfl; have hcz8_9 : w7.cell? ⟨gb101, 9, none⟩ = some (.int .i64 0) := (blk_cell BK101.out 9).trans rfl; have hcz8_10 : w7.cell? ⟨gb101, 10, none⟩ = some (.int .i64 0) := (blk_cell BK101.out 10).trans rfl; have hcz8_11 : w7.cell? ⟨gb101, 11, none⟩ = some (.int .i64 0) := (blk_cell BK101.out 11).trans rfl; have hcz8_12 : w7.cell? ⟨gb101, 12, none⟩ = some (.int .i64 0) := (blk_cell BK101.out 12).trans rfl; have hfz8_0 := blk_frozen BK101.out 0; have hfz8_1 := blk_frozen BK101.out 1; have hfz8_2 := blk_frozen BK101.out 2; have hfz8_3 := blk_frozen BK101.out 3; have hfz8_4 := blk_frozen BK101.out 4; have hfz8_5 := blk_frozen BK101.out 5; have hfz8_6 := blk_frozen BK101.out 6; have hfz8_7 := blk_frozen BK101.out 7; have hfz8_8 := blk_frozen BK101.out 8; have hfz8_9 := blk_frozen BK101.out 9; have hfz8_10 := blk_frozen BK101.out 10; have hfz8_11 := blk_frozen BK101.out 11; have hfz8_12 := blk_frozen BK101.out 12) | ((with_reducible refine gate_dst (N := 11) rfl ?_); (try (refine gate_guard (by rfl) ?_; dsimp only)); refine Kd.R_lit k60 _ 60 ?hg (N := 11) ?hd (xs := ([(⟨2, 0, 1, 0, 0, 0, 0⟩ : S60), (⟨3, 0, 1, 0, 0, 0, 0⟩ : S60), (⟨5, 0, 1, 0, 0, 0, 0⟩ : S60), (⟨1, 0, 0, 0, 1, 0, 0⟩ : S60), (⟨2, 0, 6, 0, 0, 0, 0⟩ : S60)] : List (S60))) (inner := [.int .i64 2, .int .i64 0, .int .i64 1, .int .i64 0, .int .i64 0, .int .i64 0, .int .i64 0, .int .i64 3, .int .i64 0, .int .i64 1, .int .i64 0, .int .i64 0, .int .i64 0, .int .i64 0, .int .i64 5, .int .i64 0, .int .i64 1, .int .i64 0, .int .i64 0, .int .i64 0, .int .i64 0, .int .i64 1, .int .i64 0, .int .i64 0, .int .i64 0, .int .i64 1, .int .i64 0, .int .i64 0, .int .i64 2, .int .i64 0, .int .i64 6, .int .i64 0, .int .i64 0, .int .i64 0, .int .i64 0]) (ok := fun _ => True) (okp := fun _ => True) ?hr ?hp (fun _ hk => hk) trivial (Below.refl _ _) (Nat.le_refl _) (by simp) ?_; (case hd => rfl); (case hg => rfl); (case hr => first | (go_simp; done) | (go_simp; rfl)); (case hp => exact (Reps.c7 (show Kd.M k60 _ _ _ (⟨2, 0, 1, 0, 0, 0, 0⟩ : S60) [.int .i64 2, .int .i64 0, .int .i64 1, .int .i64 0, .int .i64 0, .int .i64 0, .int .i64 0] from (k60_mkM _ _ _ (⟨2, 0, 1, 0, 0, 0, 0⟩ : S60) )) (Reps.c7 (show Kd.M k60 _ _ _ (⟨3, 0, 1, 0, 0, 0, 0⟩ : S60) [.int .i64 3, .int .i64 0, .int .i64 1, .int .i64 0, .int .i64 0, .int .i64 0, .int .i64 0] from (k60_mkM _ _ _ (⟨3, 0, 1, 0, 0, 0, 0⟩ : S60) )) (Reps.c7 (show Kd.M k60 _ _ _ (⟨5, 0, 1, 0, 0, 0, 0⟩ : S60) [.int .i64 5, .int .i64 0, .int .i64 1, .int .i64 0, .int .i64 0, .int .i64 0, .int .i64 0] from (k60_mkM _ _ _ (⟨5, 0, 1, 0, 0, 0, 0⟩ : S60) )) (Reps.c7 (show Kd.M k60 _ _ _ (⟨1, 0, 0, 0, 1, 0, 0⟩ : S60) [.int .i64 1, .int .i64 0, .int .i64 0, .int .i64 0, .int .i64 1, .int .i64 0, .int .i64 0] from (k60_mkM _ _ _ (⟨1, 0, 0, 0, 1, 0, 0⟩ : S60) )) (Reps.c7 (show Kd.M k60 _ _ _ (⟨2, 0, 6, 0, 0, 0, 0⟩ : S60) [.int .i64 2, .int .i64 0, .int .i64 6, .int .i64 0, .int .i64 0, .int .i64 0, .int .i64 0] from (k60_mkM _ _ _ (⟨2, 0, 6, 0, 0, 0, 0⟩ : S60) )) (Reps.none _ _))))))); intro v103 w9 ho10 hb hg_ hnew_; clear hg_ hnew_; (first | rw [← Ny102.out] at ho10 | (simp only [Int.reduceToNat] at ho10; rw [← Ny102.out] at ho10)); have n0_ := Aside0.mk (Kd.R_lower ho10 (below_size (by repeat (first | (with_reducible first | exact HB.out | apply below_alloc | apply pw_below_drewN | apply below_drew1 | refine below_set ?_ GE101.out) | exact HB.out)))); have n1_ := Aside0.mk (blk_below (g := gb101) (o := .cells #[.int .i64 1, .int .i64 1, .int .i64 1, .int .i64 1, .int .i64 1, .int .i64 0, .int .i64 0, .int .i64 1, .int .i64 1, .int .i64 1, .int .i64 1, .int .i64 0, .int .i64 0] 36 (0, 0)) (by (with_reducible repeat (first | refine blk_drewN ?_ _ | refine blk_drew ?_ | refine blk_alloc ?_ _)); refine blk_put (cs := #[.int .i64 1, .int .i64 1, .int .i64 1, .int .i64 1, .int .i64 1, .int .i64 0, .int .i64 0, .int .i64 1, .int .i64 1, .int .i64 1, .int .i64 1, .int .i64 0, .int .i64 0]) ?_ 12 _ rfl; (with_reducible repeat (first | refine blk_drewN ?_ _ | refine blk_drew ?_ | refine blk_alloc ?_ _)); refine blk_put (cs := #[.int .i64 1, .int .i64 1, .int .i64 1, .int .i64 1, .int .i64 1, .int .i64 0, .int .i64 0, .int .i64 1, .int .i64 1, .int .i64 1, .int .i64 1, .int .i64 0, .int .i64 0]) ?_ 11 _ rfl; (with_reducible repeat (first | refine blk_drewN ?_ _ | refine blk_drew ?_ | refine blk_alloc ?_ _)); refine blk_put (cs := #[.int .i64 1, .int .i64 1, .int .i64 1, .int .i64 1, .int .i64 1, .int .i64 0, .int .i64 0, .int .i64 1, .int .i64 1, .int .i64 1, .int .i64 0, .int .i64 0, .int .i64 0]) ?_ 10 _ rfl; (with_reducible repeat (first | refine blk_drewN ?_ _ | refine blk_drew ?_ | refine blk_alloc ?_ _)); refine blk_put (cs := #[.int .i64 1, .int .i64 1, .int .i64 1, .int .i64 1, .int .i64 1, .int .i64 0, .int .i64 0, .int .i64 1, .int .i64 1, .int .i64 0, .int .i64 0, .int .i64 0, .int .i64 0]) ?_ 9 _ rfl; (with_reducible repeat (first | refine blk_drewN ?_ _ | refine blk_drew ?_ | refine blk_alloc ?_ _)); refine blk_put (cs := #[.int .i64 1, .int .i64 1, .int .i64 1, .int .i64 1, .int .i64 1, .int .i64 0, .int .i64 0, .int .i64 1, .int .i64 0, .int .i64 0, .int .i64 0, .int .i64 0, .int .i64 0]) ?_ 8 _ rfl; (with_reducible repeat (first | refine blk_drewN ?_ _ | refine blk_drew ?_ | refine blk_alloc ?_ _)); refine blk_put (cs := #[.int .i64 1, .int .i64 1, .int .i64 1, .int .i64 1, .int .i64 1, .int .i64 0, .int .i64 0, .int .i64 0, .int .i64 0, .int .i64 0, .int .i64 0, .int .i64 0, .int .i64 0]) ?_ 7 _ rfl; (with_reducible repeat (first | refine blk_drewN ?_ _ | refine blk_drew ?_ | refine blk_alloc ?_ _)); refine blk_put (cs := #[.int .i64 1, .int .i64 1, .int .i64 1, .int .i64 1, .int .i64 1, .int .i64 0, .int .i64 0, .int .i64 0, .int .i64 0, .int .i64 0, .int .i64 0, .int .i64 0, .int .i64 0]) ?_ 6 _ rfl; (with_reducible repeat (first | refine blk_drewN ?_ _ | refine blk_drew ?_ | refine blk_alloc ?_ _)); refine blk_put (cs := #[.int .i64 1, .int .i64 1, .int .i64 1, .int .i64 1, .int .i64 1, .int .i64 0, .int .i64 0, .int .i64 0, .int .i64 0, .int .i64 0, .int .i64 0, .int .i64 0, .int .i64 0]) ?_ 5 _ rfl; (with_reducible repeat (first | refine blk_drewN ?_ _ | refine blk_drew ?_ | refine blk_alloc ?_ _)); refine blk_put (cs := #[.int .i64 1, .int .i64 1, .int .i64 1, .int .i64 1, .int .i64 0, .int .i64 0, .int .i64 0, .int .i64 0, .int .i64 0, .int .i64 0, .int .i64 0, .int .i64 0, .int .i64 0]) ?_ 4 _ rfl; (with_reducible repeat (first | refine blk_drewN ?_ _ | refine blk_drew ?_ | refine blk_alloc ?_ _)); refine blk_put (cs := #[.int .i64 1, .int .i64 1, .int .i64 1, .int .i64 0, .int .i64 0, .int .i64 0, .int .i64 0, .int .i64 0, .int .i64 0, .int .i64 0, .int .i64 0, .int .i64 0, .int .i64 0]) ?_ 3 _ rfl; (with_reducible repeat (first | refine blk_drewN ?_ _ | refine blk_drew ?_ | refine blk_alloc ?_ _)); refine blk_put (cs := #[.int .i64 1, .int .i64 1, .int .i64 0, .int .i64 0, .int .i64 0, .int .i64 0, .int .i64 0, .int .i64 0, .int .i64 0, .int .i64 0, .int .i64 0, .int .i64 0, .int .i64 0]) ?_ 2 _ rfl; (with_reducible repeat (first | refine blk_drewN ?_ _ | refine blk_drew ?_ | refine blk_alloc ?_ _)); refine blk_put (cs := #[.int .i64 1, .int .i64 0, .int .i64 0, .int .i64 0, .int .i64 0, .int .i64 0, .int .i64 0, .int .i64 0, .int .i64 0, .int .i64 0, .int .i64 0, .int .i64 0, .int .i64 0]) ?_ 1 _ rfl; (with_reducible repeat (first | refine blk_drewN ?_ _ | refine blk_drew ?_ | refine blk_alloc ?_ _)); refine blk_put (cs := #[.int .i64 0, .int .i64 0, .int .i64 0, .int .i64 0, .int .i64 0, .int .i64 0, .int .i64 0, .int .i64 0, .int .i64 0, .int .i64 0, .int .i64 0, .int .i64 0, .int .i64 0]) ?_ 0 _ rfl; (with_reducible repeat (first | refine blk_drewN ?_ _ | refine blk_drew ?_ | refine blk_alloc ?_ _)); exact BK101.out) hb); have n2_ := Aside0.mk (below_step (by repeat (first | (with_reducible first | exact HB.out | apply below_alloc | apply pw_below_drewN | apply below_drew1 | refine below_set ?_ GE101.out) | exact HB.out)) hb); clear BK101; clear HB; have HO104 := n0_; have BK101 := n1_; have HB := n2_; clear n0_ n1_ n2_; clear hb ho10; obtain ⟨Ao11, co11, eo11⟩ := Kd.R_slice HO104.out; subst eo11))
     have n0_ := Aside0.mk (Kd.R_drew HO104.out)
     have n1_ := Aside0.mk (blk_drew BK101.out)
     have n2_ := Aside0.mk (below_drew1 HB.out)
     clear HO104
     clear BK101
     clear HB
     have HO104 := n0_
     have BK101 := n1_
     have HB := n2_
     clear n0_ n1_ n2_
     refine start_ (n := 11) (S := fun w' => w'.cell? ⟨gb101, 0, none⟩ = some (.int .i64 1) ∧ w'.cell? ⟨gb101, 1, none⟩ = some (.int .i64 1) ∧ w'.cell? ⟨gb101, 2, none⟩ = some (.int .i64 1) ∧ w'.cell? ⟨gb101, 3, none⟩ = some (.int .i64 1) ∧ w'.cell? ⟨gb101, 4, none⟩ = some (.int .i64 1) ∧ w'.cell? ⟨gb101, 5, none⟩ = some (.int .i64 0) ∧ w'.cell? ⟨gb101, 6, none⟩ = some (.int .i64 0) ∧ w'.cell? ⟨gb101, 7, none⟩ = some (.int .i64 1) ∧ w'.cell? ⟨gb101, 8, none⟩ = some (.int .i64 1) ∧ w'.cell? ⟨gb101, 9, none⟩ = some (.int .i64 1) ∧ w'.cell? ⟨gb101, 10, none⟩ = some (.int .i64 1) ∧ w'.cell? ⟨gb101, 11, none⟩ = some (.int .i64 0) ∧ w'.cell? ⟨gb101, 12, none⟩ = some (.int .i64 0)) (ds := []) #[ff,ff,ff,ff,ff,ff,ff,ff,ff,ff,ff] (by kernel_rfl) rfl rfl ⟨(blk_cell BK101.out 0).trans rfl, (blk_cell BK101.out 1).trans rfl, (blk_cell BK101.out 2).trans rfl, (blk_cell BK101.out 3).trans rfl, (blk_cell BK101.out 4).trans rfl, (blk_cell BK101.out 5).trans rfl, (blk_cell BK101.out 6).trans rfl, (blk_cell BK101.out 7).trans rfl, (blk_cell BK101.out 8).trans rfl, (blk_cell BK101.out 9).trans rfl, (blk_cell BK101.out 10).trans rfl, (blk_cell BK101.out 11).trans rfl, (blk_cell BK101.out 12).trans rfl⟩ (fun hHeld => ?_); refine with_tabW knelllaw25_speaks.tab3 knelllaw25_speaks.bits3 (fun HT_ HW_ => ?_)
     generalize w9.drew = w12 at HO104 BK101 HB hHeld ⊢
     refine pure_ (i := 0) (N := some 12) (v := ?_) (a' := ?_) #[tt,ff,ff,ff,ff,ff,ff,ff,ff,ff,ff] rfl rfl (any_of HT_.out (by kernel_rfl)) (fun _ _ _ h => h) (Or.inl ⟨by rfl, ?_⟩) ?_ ?_
     rotate_left
     ·intro w'
      go_simp
      with_reducible rfl
     rotate_left
     ·simp only [Act.put, sQ0, sQ1, sQ2, i64_w]
      rfl
     refine pure_ (i := 3) (N := some 15) (v := ?_) (a' := ?_) #[tt,ff,ff,tt,ff,ff,ff,ff,ff,ff,ff] rfl rfl (any_of HT_.out (by kernel_rfl)) (fun _ _ _ h => h) (Or.inl ⟨by rfl, ?_⟩) ?_ ?_
     rotate_left
     ·intro w'
      go_simp
      with_reducible rfl
     rotate_left
     ·simp only [Act.put, sQ0, sQ1, sQ2, i64_w]
      rfl
     refine pure_ (i := 4) (N := some 16) (v := ?_) (a' := ?_) #[tt,ff,ff,tt,tt,ff,ff,ff,ff,ff,ff] rfl rfl (any_of HT_.out (by kernel_rfl)) (fun _ _ _ h => h) (Or.inl ⟨by rfl, ?_⟩) ?_ ?_
     rotate_left
     ·intro w'
      go_simp
      with_reducible rfl
     rotate_left
     ·simp only [Act.put, sQ0, sQ1, sQ2, i64_w]
      rfl
     refine take_ (i := 1) (N := some 13) (v := ?_) (a' := ?_) #[tt,tt,ff,tt,tt,ff,ff,ff,ff,ff,ff] rfl rfl (take_ofW HT_.out HW_.out (by kernel_rfl)) (fun _ _ _ h => h) (Or.inl ⟨by rfl, ?_⟩) hHeld ?_ ?_
     rotate_left
     ·rintro w' ⟨s0, s1, s2, s3, s4, s5, s6, s7, s8, s9, s10, s11, s12⟩
      go_simp
      with_reducible rfl
     rotate_left
     ·simp only [Act.put, sQ0, sQ1, sQ2, i64_w]
      rfl
     refine take_ (i := 7) (N := some 19) (v := ?_) (a' := ?_) #[tt,tt,ff,tt,tt,ff,ff,tt,ff,ff,ff] rfl rfl (take_ofW HT_.out HW_.out (by kernel_rfl)) (fun _ _ _ h => h) (Or.inl ⟨by rfl, ?_⟩) hHeld ?_ ?_
     rotate_left
     ·rintro w' ⟨s0, s1, s2, s3, s4, s5, s6, s7, s8, s9, s10, s11, s12⟩
      go_simp
      with_reducible rfl
     rotate_left
     ·simp only [Act.put, sQ0, sQ1, sQ2, i64_w]
      rfl
     refine join_ (σ := Value × Value) 4 #[tt,tt,tt,tt,tt,tt,ff,tt,ff,ff,ff] (fun s_ => [(14, s_.1), (17, s_.2)]) (fun s_ w' => (w'.cell? ⟨gb101, 0, none⟩ = some (.int .i64 1) ∧ w'.cell? ⟨gb101, 1, none⟩ = some (.int .i64 1) ∧ w'.cell? ⟨gb101, 2, none⟩ = some (.int .i64 1) ∧ w'.cell? ⟨gb101, 3, none⟩ = some (.int .i64 1) ∧ w'.cell? ⟨gb101, 4, none⟩ = some (.int .i64 1) ∧ w'.cell? ⟨gb101, 5, none⟩ = some (.int .i64 0) ∧ w'.cell? ⟨gb101, 6, none⟩ = some (.int .i64 0) ∧ w'.cell? ⟨gb101, 7, none⟩ = some (.int .i64 1) ∧ w'.cell? ⟨gb101, 8, none⟩ = some (.int .i64 1) ∧ w'.cell? ⟨gb101, 9, none⟩ = some (.int .i64 1) ∧ w'.cell? ⟨gb101, 10, none⟩ = some (.int .i64 1) ∧ w'.cell? ⟨gb101, 11, none⟩ = some (.int .i64 0) ∧ w'.cell? ⟨gb101, 12, none⟩ = some (.int .i64 0)) ∧ (Kd.R k60 60 w' w.heap.size (fun k_ => some k_ ≠ (s_.2 : Value).ownBlock) (.slice Ao11 y102.length co11) y102) ∧ (Kd.R (Kd.int .i64) 3 w' w.heap.size (fun _ => True) s_.1 t105) ∧ (Kd.R k60 60 w' w.heap.size (fun k_ => some k_ ≠ (.slice Ao11 y102.length co11 : Value).ownBlock) s_.2 y108) ∧ (w'.heap[gb101]? = some (.cells #[.int .i64 1, .int .i64 1, .int .i64 1, .int .i64 1, .int .i64 1, .int .i64 0, .int .i64 0, .int .i64 1, .int .i64 1, .int .i64 1, .int .i64 1, .int .i64 0, .int .i64 0] 36 (0, 0))) ∧ (Below w.heap.size w w')) ?_ ?_
     rotate_left
     ·intro hCont
      refine two_ (i := 2) (j := 5) (Ni := some 14) (Nj := some 17) #[tt,tt,tt,tt,tt,ff,ff,tt,ff,ff,ff] #[tt,tt,ff,tt,tt,tt,ff,tt,ff,ff,ff] rfl rfl rfl rfl (two_of HT_.out (by kernel_rfl)) (by decide) (by decide) (fun K hK => ?_) (fun K hK => ?_)
      ·skip
       refine goes_ Try.func48 (by kernel_rfl) rfl #[.slice Ao11 y102.length co11, .agg #[.int .i64 1, .int .i64 1, .int .i64 1, .int .i64 1, .int .i64 1, .int .i64 0, .int .i64 0, .int .i64 1, .int .i64 1, .int .i64 1, .int .i64 1, .int .i64 0, .int .i64 0]] (by rfl) rfl rfl (by (try simp only [List.map_toArray, List.map_cons, List.map_nil]); first | done | rfl | (simp only [List.length_drop, List.length_take]; rfl)) ?_
       with_reducible refine (verdict_Late.calls _ _ y102 1 1 1 1 1 0 0 1 1 1 1 0 0 t105 _ ?side1 ?side2 A1.out).mono ?_
       (case side1 => repeat (first | exact (Kd.R_reads' HO104.out).2.2 | (with_reducible refine Kd.C_alloc ?_ _) | (with_reducible refine Kd.C_drewN ?_ _) | (with_reducible refine Kd.C_drew ?_)))
       (case side2 => exact (Kd.R_reads' HO104.out).2.1)
       rintro e w13 ⟨v106, rfl, ho0, hb⟩
       refine ⟨_, rfl, ?_⟩
       have n0_ := Aside0.mk (Kd.R_below (by (with_reducible repeat (first | apply Kd.R_alloc | apply Kd.R_drewN | apply Kd.R_drew)); exact HO104.out) hb)
       have n1_ := Aside0.mk (Kd.R_lower ho0 (below_size (by repeat (first | (with_reducible first | exact HB.out | apply below_alloc | apply pw_below_drewN | apply below_drew1 | refine below_set ?_ GE101.out) | exact HB.out))))
       have n2_ := Aside0.mk (blk_below (g := gb101) (o := .cells #[.int .i64 1, .int .i64 1, .int .i64 1, .int .i64 1, .int .i64 1, .int .i64 0, .int .i64 0, .int .i64 1, .int .i64 1, .int .i64 1, .int .i64 1, .int .i64 0, .int .i64 0] 36 (0, 0)) (by (with_reducible repeat (first | refine blk_drewN ?_ _ | refine blk_drew ?_ | refine blk_alloc ?_ _)); exact BK101.out) hb)
       have n3_ := Aside0.mk (below_step (by repeat (first | (with_reducible first | exact HB.out | apply below_alloc | apply pw_below_drewN | apply below_drew1 | refine below_set ?_ GE101.out) | exact HB.out)) hb)
       clear HO104
       clear BK101
       clear HB
       have HO104 := n0_
       have HO107 := n1_
       have BK101 := n2_
       have HB := n3_
       clear n0_ n1_ n2_ n3_
       (try clear hb)
       (try clear hb2)
       (try clear hk)
       (try clear hi)
       (try clear ho0)
       refine hK.out _ _ ⟨(blk_cell BK101.out 0).trans rfl, (blk_cell BK101.out 1).trans rfl, (blk_cell BK101.out 2).trans rfl, (blk_cell BK101.out 3).trans rfl, (blk_cell BK101.out 4).trans rfl, (blk_cell BK101.out 5).trans rfl, (blk_cell BK101.out 6).trans rfl, (blk_cell BK101.out 7).trans rfl, (blk_cell BK101.out 8).trans rfl, (blk_cell BK101.out 9).trans rfl, (blk_cell BK101.out 10).trans rfl, (blk_cell BK101.out 11).trans rfl, (blk_cell BK101.out 12).trans rfl⟩ (fun hHeld => ?_)
       clear hK K
       refine norm_ (a' := ?_) ?_ ?_
       rotate_left
       ·show Act.put _ (some 14) _ = _
        simp only [Act.put, sQ0, sQ1, sQ2, i64_w]
        rfl
       refine one_ (i := 5) (N := some 17) #[tt,tt,tt,tt,tt,tt,ff,tt,ff,ff,ff] rfl rfl (one_of HT_.out (by kernel_rfl)) (by decide) (fun K hK => ?_)
       refine Kd.R_lit_step k60 _ 60 ?hg (N := 17) ?hd (xs := ([(⟨5, 0, 6, 0, 0, 0, 0⟩ : S60)] : List (S60))) (inner := [.int .i64 5, .int .i64 0, .int .i64 6, .int .i64 0, .int .i64 0, .int .i64 0, .int .i64 0]) (ok := fun _ => True) (okp := fun _ => True) ?hr ?hp (fun _ hk => hk) trivial (Below.refl _ _) (Nat.le_refl _) (by simp) ?_; (case hd => rfl); (case hg => rfl); (case hr => first | (go_simp; done) | (go_simp; rfl)); (case hp => exact (Reps.c7 (show Kd.M k60 _ _ _ (⟨5, 0, 6, 0, 0, 0, 0⟩ : S60) [.int .i64 5, .int .i64 0, .int .i64 6, .int .i64 0, .int .i64 0, .int .i64 0, .int .i64 0] from (k60_mkM _ _ _ (⟨5, 0, 6, 0, 0, 0, 0⟩ : S60) )) (Reps.none _ _)))
       intro v109 w14 ho15 hb hg_ hnew_
       clear hg_ hnew_
       (first | rw [← Ny108.out] at ho15 | (simp only [Int.reduceToNat] at ho15; rw [← Ny108.out] at ho15))
       have n0_ := Aside0.mk (Kd.R_elder' (by (with_reducible repeat (first | apply Kd.R_alloc | apply Kd.R_drewN | apply Kd.R_drew)); exact HO104.out) (Kd.R_base ho15) hb)
       have n1_ := Aside0.mk (Kd.R_below (by (with_reducible repeat (first | apply Kd.R_alloc | apply Kd.R_drewN | apply Kd.R_drew)); exact HO107.out) hb)
       have n2_ := Aside0.mk (Kd.R_lower (Kd.R_new' ho15 (Kd.R_lt (by (with_reducible repeat (first | apply Kd.R_alloc | apply Kd.R_drewN | apply Kd.R_drew)); exact HO104.out))) (below_size (by repeat (first | (with_reducible first | exact HB.out | apply below_alloc | apply pw_below_drewN | apply below_drew1 | refine below_set ?_ GE101.out) | exact HB.out))))
       have n3_ := Aside0.mk (blk_below (g := gb101) (o := .cells #[.int .i64 1, .int .i64 1, .int .i64 1, .int .i64 1, .int .i64 1, .int .i64 0, .int .i64 0, .int .i64 1, .int .i64 1, .int .i64 1, .int .i64 1, .int .i64 0, .int .i64 0] 36 (0, 0)) (by (with_reducible repeat (first | refine blk_drewN ?_ _ | refine blk_drew ?_ | refine blk_alloc ?_ _)); exact BK101.out) hb)
       have n4_ := Aside0.mk (below_step (by repeat (first | (with_reducible first | exact HB.out | apply below_alloc | apply pw_below_drewN | apply below_drew1 | refine below_set ?_ GE101.out) | exact HB.out)) hb)
       clear HO104
       clear HO107
       clear BK101
       clear HB
       have HO104 := n0_
       have HO107 := n1_
       have HO110 := n2_
       have BK101 := n3_
       have HB := n4_
       clear n0_ n1_ n2_ n3_ n4_
       clear hb ho15
       refine hK.out _ _ ⟨(blk_cell BK101.out 0).trans rfl, (blk_cell BK101.out 1).trans rfl, (blk_cell BK101.out 2).trans rfl, (blk_cell BK101.out 3).trans rfl, (blk_cell BK101.out 4).trans rfl, (blk_cell BK101.out 5).trans rfl, (blk_cell BK101.out 6).trans rfl, (blk_cell BK101.out 7).trans rfl, (blk_cell BK101.out 8).trans rfl, (blk_cell BK101.out 9).trans rfl, (blk_cell BK101.out 10).trans rfl, (blk_cell BK101.out 11).trans rfl, (blk_cell BK101.out 12).trans rfl⟩ (fun hHeld => ?_)
       clear hK K
       refine norm_ (a' := ?_) ?_ ?_
       rotate_left
       ·show Act.put _ (some 17) _ = _
        simp only [Act.put, sQ0, sQ1, sQ2, i64_w]
        rfl
       exact norm_ (by simp only [putAll, Act.put, sQ0, sQ1, sQ2]) (hCont (v106, v109) _ ⟨hHeld, (by (with_reducible repeat (first | apply Kd.R_alloc | apply Kd.R_drewN | apply Kd.R_drew)); exact Kd.R_mono HO104.out (fun _ hk => hk.2)), (by (with_reducible repeat (first | apply Kd.R_alloc | apply Kd.R_drewN | apply Kd.R_drew)); exact HO107.out), (by (with_reducible repeat (first | apply Kd.R_alloc | apply Kd.R_drewN | apply Kd.R_drew)); exact Kd.R_mono HO110.out (fun _ hk => hk.2)), (by (with_reducible repeat (first | refine blk_drewN ?_ _ | refine blk_drew ?_ | refine blk_alloc ?_ _)); exact BK101.out), (by repeat (first | (with_reducible first | exact HB.out | apply below_alloc | apply pw_below_drewN | apply below_drew1 | refine below_set ?_ GE101.out) | exact HB.out))⟩)
      ·skip
       refine Kd.R_lit_step k60 _ 60 ?hg (N := 17) ?hd (xs := ([(⟨5, 0, 6, 0, 0, 0, 0⟩ : S60)] : List (S60))) (inner := [.int .i64 5, .int .i64 0, .int .i64 6, .int .i64 0, .int .i64 0, .int .i64 0, .int .i64 0]) (ok := fun _ => True) (okp := fun _ => True) ?hr ?hp (fun _ hk => hk) trivial (Below.refl _ _) (Nat.le_refl _) (by simp) ?_; (case hd => rfl); (case hg => rfl); (case hr => first | (go_simp; done) | (go_simp; rfl)); (case hp => exact (Reps.c7 (show Kd.M k60 _ _ _ (⟨5, 0, 6, 0, 0, 0, 0⟩ : S60) [.int .i64 5, .int .i64 0, .int .i64 6, .int .i64 0, .int .i64 0, .int .i64 0, .int .i64 0] from (k60_mkM _ _ _ (⟨5, 0, 6, 0, 0, 0, 0⟩ : S60) )) (Reps.none _ _)))
       intro v109 w13 ho14 hb hg_ hnew_
       clear hg_ hnew_
       (first | rw [← Ny108.out] at ho14 | (simp only [Int.reduceToNat] at ho14; rw [← Ny108.out] at ho14))
       have n0_ := Aside0.mk (Kd.R_elder' (by (with_reducible repeat (first | apply Kd.R_alloc | apply Kd.R_drewN | apply Kd.R_drew)); exact HO104.out) (Kd.R_base ho14) hb)
       have n1_ := Aside0.mk (Kd.R_lower (Kd.R_new' ho14 (Kd.R_lt (by (with_reducible repeat (first | apply Kd.R_alloc | apply Kd.R_drewN | apply Kd.R_drew)); exact HO104.out))) (below_size (by repeat (first | (with_reducible first | exact HB.out | apply below_alloc | apply pw_below_drewN | apply below_drew1 | refine below_set ?_ GE101.out) | exact HB.out))))
       have n2_ := Aside0.mk (blk_below (g := gb101) (o := .cells #[.int .i64 1, .int .i64 1, .int .i64 1, .int .i64 1, .int .i64 1, .int .i64 0, .int .i64 0, .int .i64 1, .int .i64 1, .int .i64 1, .int .i64 1, .int .i64 0, .int .i64 0] 36 (0, 0)) (by (with_reducible repeat (first | refine blk_drewN ?_ _ | refine blk_drew ?_ | refine blk_alloc ?_ _)); exact BK101.out) hb)
       have n3_ := Aside0.mk (below_step (by repeat (first | (with_reducible first | exact HB.out | apply below_alloc | apply pw_below_drewN | apply below_drew1 | refine below_set ?_ GE101.out) | exact HB.out)) hb)
       clear HO104
       clear BK101
       clear HB
       have HO104 := n0_
       have HO110 := n1_
       have BK101 := n2_
       have HB := n3_
       clear n0_ n1_ n2_ n3_
       clear hb ho14
       refine hK.out _ _ ⟨(blk_cell BK101.out 0).trans rfl, (blk_cell BK101.out 1).trans rfl, (blk_cell BK101.out 2).trans rfl, (blk_cell BK101.out 3).trans rfl, (blk_cell BK101.out 4).trans rfl, (blk_cell BK101.out 5).trans rfl, (blk_cell BK101.out 6).trans rfl, (blk_cell BK101.out 7).trans rfl, (blk_cell BK101.out 8).trans rfl, (blk_cell BK101.out 9).trans rfl, (blk_cell BK101.out 10).trans rfl, (blk_cell BK101.out 11).trans rfl, (blk_cell BK101.out 12).trans rfl⟩ (fun hHeld => ?_)
       clear hK K
       refine norm_ (a' := ?_) ?_ ?_
       rotate_left
       ·show Act.put _ (some 17) _ = _
        simp only [Act.put, sQ0, sQ1, sQ2, i64_w]
        rfl
       refine one_ (i := 2) (N := some 14) #[tt,tt,tt,tt,tt,tt,ff,tt,ff,ff,ff] rfl rfl (one_of HT_.out (by kernel_rfl)) (by decide) (fun K hK => ?_)
       refine goes_ Try.func48 (by kernel_rfl) rfl #[.slice Ao11 y102.length co11, .agg #[.int .i64 1, .int .i64 1, .int .i64 1, .int .i64 1, .int .i64 1, .int .i64 0, .int .i64 0, .int .i64 1, .int .i64 1, .int .i64 1, .int .i64 1, .int .i64 0, .int .i64 0]] (by rfl) rfl rfl (by (try simp only [List.map_toArray, List.map_cons, List.map_nil]); first | done | rfl | (simp only [List.length_drop, List.length_take]; rfl)) ?_
       with_reducible refine (verdict_Late.calls _ _ y102 1 1 1 1 1 0 0 1 1 1 1 0 0 t105 _ ?side1 ?side2 A1.out).mono ?_
       (case side1 => repeat (first | exact (Kd.R_reads' HO104.out).2.2 | (with_reducible refine Kd.C_alloc ?_ _) | (with_reducible refine Kd.C_drewN ?_ _) | (with_reducible refine Kd.C_drew ?_)))
       (case side2 => exact (Kd.R_reads' HO104.out).2.1)
       rintro e w15 ⟨v106, rfl, ho0, hb⟩
       refine ⟨_, rfl, ?_⟩
       have n0_ := Aside0.mk (Kd.R_below (by (with_reducible repeat (first | apply Kd.R_alloc | apply Kd.R_drewN | apply Kd.R_drew)); exact HO104.out) hb)
       have n1_ := Aside0.mk (Kd.R_below (by (with_reducible repeat (first | apply Kd.R_alloc | apply Kd.R_drewN | apply Kd.R_drew)); exact HO110.out) hb)
       have n2_ := Aside0.mk (Kd.R_lower ho0 (below_size (by repeat (first | (with_reducible first | exact HB.out | apply below_alloc | apply pw_below_drewN | apply below_drew1 | refine below_set ?_ GE101.out) | exact HB.out))))
       have n3_ := Aside0.mk (blk_below (g := gb101) (o := .cells #[.int .i64 1, .int .i64 1, .int .i64 1, .int .i64 1, .int .i64 1, .int .i64 0, .int .i64 0, .int .i64 1, .int .i64 1, .int .i64 1, .int .i64 1, .int .i64 0, .int .i64 0] 36 (0, 0)) (by (with_reducible repeat (first | refine blk_drewN ?_ _ | refine blk_drew ?_ | refine blk_alloc ?_ _)); exact BK101.out) hb)
       have n4_ := Aside0.mk (below_step (by repeat (first | (with_reducible first | exact HB.out | apply below_alloc | apply pw_below_drewN | apply below_drew1 | refine below_set ?_ GE101.out) | exact HB.out)) hb)
       clear HO104
       clear HO110
       clear BK101
       clear HB
       have HO104 := n0_
       have HO110 := n1_
       have HO107 := n2_
       have BK101 := n3_
       have HB := n4_
       clear n0_ n1_ n2_ n3_ n4_
       (try clear hb)
       (try clear hb2)
       (try clear hk)
       (try clear hi)
       (try clear ho0)
       refine hK.out _ _ ⟨(blk_cell BK101.out 0).trans rfl, (blk_cell BK101.out 1).trans rfl, (blk_cell BK101.out 2).trans rfl, (blk_cell BK101.out 3).trans rfl, (blk_cell BK101.out 4).trans rfl, (blk_cell BK101.out 5).trans rfl, (blk_cell BK101.out 6).trans rfl, (blk_cell BK101.out 7).trans rfl, (blk_cell BK101.out 8).trans rfl, (blk_cell BK101.out 9).trans rfl, (blk_cell BK101.out 10).trans rfl, (blk_cell BK101.out 11).trans rfl, (blk_cell BK101.out 12).trans rfl⟩ (fun hHeld => ?_)
       clear hK K
       refine norm_ (a' := ?_) ?_ ?_
       rotate_left
       ·show Act.put _ (some 14) _ = _
        simp only [Act.put, sQ0, sQ1, sQ2, i64_w]
        rfl
       exact norm_ (by simp only [putAll, Act.put, sQ0, sQ1, sQ2]) (hCont (v106, v109) _ ⟨hHeld, (by (with_reducible repeat (first | apply Kd.R_alloc | apply Kd.R_drewN | apply Kd.R_drew)); exact Kd.R_mono HO104.out (fun _ hk => hk.2)), (by (with_reducible repeat (first | apply Kd.R_alloc | apply Kd.R_drewN | apply Kd.R_drew)); exact HO107.out), (by (with_reducible repeat (first | apply Kd.R_alloc | apply Kd.R_drewN | apply Kd.R_drew)); exact Kd.R_mono HO110.out (fun _ hk => hk.2)), (by (with_reducible repeat (first | refine blk_drewN ?_ _ | refine blk_drew ?_ | refine blk_alloc ?_ _)); exact BK101.out), (by repeat (first | (with_reducible first | exact HB.out | apply below_alloc | apply pw_below_drewN | apply below_drew1 | refine below_set ?_ GE101.out) | exact HB.out))⟩)
     rintro ⟨v106, v109⟩ w16 ⟨hS_, h0_, h1_, h2_, h3_, h4_⟩
     have n0_ : Aside0 (Kd.R k60 60 w16 w.heap.size (fun k_ => some k_ ≠ (v109 : Value).ownBlock) (.slice Ao11 y102.length co11) y102) := ⟨h0_⟩
     have n1_ : Aside0 (Kd.R (Kd.int .i64) 3 w16 w.heap.size (fun _ => True) v106 t105) := ⟨h1_⟩
     have n2_ : Aside0 (Kd.R k60 60 w16 w.heap.size (fun k_ => some k_ ≠ (.slice Ao11 y102.length co11 : Value).ownBlock) v109 y108) := ⟨h2_⟩
     have n3_ : Aside0 (w16.heap[gb101]? = some (.cells #[.int .i64 1, .int .i64 1, .int .i64 1, .int .i64 1, .int .i64 1, .int .i64 0, .int .i64 0, .int .i64 1, .int .i64 1, .int .i64 1, .int .i64 1, .int .i64 0, .int .i64 0] 36 (0, 0))) := ⟨h3_⟩
     have n4_ : Aside0 (Below w.heap.size w w16) := ⟨h4_⟩
     clear HO104
     clear BK101
     clear HB
     clear h0_ h1_ h2_ h3_ h4_
     have HO104 := n0_
     have HO107 := n1_
     have HO110 := n2_
     have BK101 := n3_
     have HB := n4_
     clear n0_ n1_ n2_ n3_ n4_
     have hHeld : w16.cell? ⟨gb101, 0, none⟩ = some (.int .i64 1) ∧ w16.cell? ⟨gb101, 1, none⟩ = some (.int .i64 1) ∧ w16.cell? ⟨gb101, 2, none⟩ = some (.int .i64 1) ∧ w16.cell? ⟨gb101, 3, none⟩ = some (.int .i64 1) ∧ w16.cell? ⟨gb101, 4, none⟩ = some (.int .i64 1) ∧ w16.cell? ⟨gb101, 5, none⟩ = some (.int .i64 0) ∧ w16.cell? ⟨gb101, 6, none⟩ = some (.int .i64 0) ∧ w16.cell? ⟨gb101, 7, none⟩ = some (.int .i64 1) ∧ w16.cell? ⟨gb101, 8, none⟩ = some (.int .i64 1) ∧ w16.cell? ⟨gb101, 9, none⟩ = some (.int .i64 1) ∧ w16.cell? ⟨gb101, 10, none⟩ = some (.int .i64 1) ∧ w16.cell? ⟨gb101, 11, none⟩ = some (.int .i64 0) ∧ w16.cell? ⟨gb101, 12, none⟩ = some (.int .i64 0) := hS_
     obtain ⟨Ao18, co18, eo18⟩ := Kd.R_slice HO110.out
     (first | subst eo18 | (injection eo18 with f1_ f2_ f3_; have f4_ := f1_.symm; have f5_ := f3_.symm; clear f1_ f2_ f3_; subst f4_; subst f5_))
     refine norm_ (a' := ?_) ?_ ?_
     rotate_left
     ·simp only [putAll, Act.put, sQ0, sQ1, sQ2]
      rfl
     refine one_ (i := 6) (N := some 18) #[tt,tt,tt,tt,tt,tt,tt,tt,ff,ff,ff] rfl rfl (one_of HT_.out (by kernel_rfl)) (by decide) (fun K hK => ?_)
     refine Kd.R_append_rows_step k60 (w0 := w) w.heap.size (by rfl) (.tmp 15) (.tmp 17) 73 60 (.agg #[(.int .i64 0), (.int .i64 0), (.int .i64 0), (.int .i64 0), (.int .i64 0), (.int .i64 0), (.int .i64 0)]) 56 rfl Try.underlying73 info60 rfl (by decide) (by omega) (.slice Ao11 y102.length co11) y102 y108 _ _ _ (fun k_ => some k_ ≠ (.slice Ao18 y108.length co18 : Value).ownBlock) (fun _ => False) rfl rfl ?aO ?aR (fun _ _ h => h) (fun _ h => h.elim) ?aF ?aB ?aS ?aL ?_
     (case aR => repeat (first | exact (Kd.R_reads' HO110.out).2.2 | (with_reducible refine Kd.C_alloc ?_ _) | (with_reducible refine Kd.C_drewN ?_ _) | (with_reducible refine Kd.C_drew ?_)))
     (case aB => exact (by repeat (first | (with_reducible first | exact HB.out | apply below_alloc | apply pw_below_drewN | apply below_drew1 | refine below_set ?_ GE101.out) | exact HB.out)))
     (case aF => exact (fun k_ hk => Kd.fresh' (Kd.R_lt (by (with_reducible repeat (first | apply Kd.R_alloc | apply Kd.R_drewN | apply Kd.R_drew)); exact HO110.out)) k_ hk))
     (case aO => exact (by (with_reducible repeat (first | apply Kd.R_alloc | apply Kd.R_drewN | apply Kd.R_drew)); exact HO104.out))
     (case aS => exact (below_size (by repeat (first | (with_reducible first | exact HB.out | apply below_alloc | apply pw_below_drewN | apply below_drew1 | refine below_set ?_ GE101.out) | exact HB.out))))
     (case aL => have := LMc2.out; omega)
     intro v112 w17 ho hb hg hat
     rw [← Ny111.out] at ho
     have n0_ := Aside0.mk (blk_grown (g := gb101) (o := .cells #[.int .i64 1, .int .i64 1, .int .i64 1, .int .i64 1, .int .i64 1, .int .i64 0, .int .i64 0, .int .i64 1, .int .i64 1, .int .i64 1, .int .i64 1, .int .i64 0, .int .i64 0] 36 (0, 0)) (by (with_reducible repeat (first | refine blk_drewN ?_ _ | refine blk_drew ?_ | refine blk_alloc ?_ _)); exact BK101.out) hg (Kd.R_ne HO104.out BK101.out (by decide)))
     have n1_ := Aside0.mk (Kd.R_over' (by (with_reducible repeat (first | apply Kd.R_alloc | apply Kd.R_drewN | apply Kd.R_drew)); exact HO107.out) (Kd.R_typed (by (with_reducible repeat (first | apply Kd.R_alloc | apply Kd.R_drewN | apply Kd.R_drew)); exact HO104.out)) (by decide) hg)
     have n2_ := Aside0.mk (Kd.R_after (ok := (fun _ => True)) (by (with_reducible repeat (first | apply Kd.R_alloc | apply Kd.R_drewN | apply Kd.R_drew)); exact Kd.R_mono HO110.out (fun _ hk => ⟨trivial, hk⟩)) hg hat)
     have n3_ := Aside0.mk (hb)
     have n4_ := Aside0.mk (ho)
     clear BK101
     clear HO107
     clear HO110
     clear HB
     clear HO104
     have BK101 := n0_
     have HO107 := n1_
     have HO110 := n2_
     have HB := n3_
     have HO113 := n4_
     clear n0_ n1_ n2_ n3_ n4_
     clear ho hb hg hat
     obtain ⟨Ao19, co19, eo19⟩ := Kd.R_slice HO113.out
     (first | subst eo19 | (injection eo19 with f1_ f2_ f3_; have f4_ := f1_.symm; have f5_ := f3_.symm; clear f1_ f2_ f3_; subst f4_; subst f5_))
     refine hK.out _ _ ⟨(blk_cell BK101.out 0).trans rfl, (blk_cell BK101.out 1).trans rfl, (blk_cell BK101.out 2).trans rfl, (blk_cell BK101.out 3).trans rfl, (blk_cell BK101.out 4).trans rfl, (blk_cell BK101.out 5).trans rfl, (blk_cell BK101.out 6).trans rfl, (blk_cell BK101.out 7).trans rfl, (blk_cell BK101.out 8).trans rfl, (blk_cell BK101.out 9).trans rfl, (blk_cell BK101.out 10).trans rfl, (blk_cell BK101.out 11).trans rfl, (blk_cell BK101.out 12).trans rfl⟩ (fun hHeld => ?_)
     clear hK K
     refine norm_ (a' := ?_) ?_ ?_
     rotate_left
     ·show Act.put _ (some 18) _ = _
      simp only [Act.put, sQ0, sQ1, sQ2, i64_w]
      rfl
     refine one_ (i := 8) (N := some 20) #[tt,tt,tt,tt,tt,tt,tt,tt,tt,ff,ff] rfl rfl (one_of HT_.out (by kernel_rfl)) (by decide) (fun K hK => ?_)
     refine goes_ Try.func48 (by kernel_rfl) rfl #[.slice Ao19 y111.length co19, .agg #[.int .i64 1, .int .i64 1, .int .i64 1, .int .i64 1, .int .i64 1, .int .i64 0, .int .i64 0, .int .i64 1, .int .i64 1, .int .i64 1, .int .i64 1, .int .i64 0, .int .i64 0]] (by rfl) rfl rfl (by (try simp only [List.map_toArray, List.map_cons, List.map_nil]); first | done | rfl | (simp only [List.length_drop, List.length_take]; rfl)) ?_
     with_reducible refine (verdict_Late.calls _ _ y111 1 1 1 1 1 0 0 1 1 1 1 0 0 t114 _ ?side1 ?side2 A3.out).mono ?_
     (case side1 => repeat (first | exact (Kd.R_reads' HO113.out).2.2 | (with_reducible refine Kd.C_alloc ?_ _) | (with_reducible refine Kd.C_drewN ?_ _) | (with_reducible refine Kd.C_drew ?_)))
     (case side2 => exact (Kd.R_reads' HO113.out).2.1)
     rintro e w20 ⟨v115, rfl, ho0, hb⟩
     refine ⟨_, rfl, ?_⟩
     have n0_ := Aside0.mk (Kd.R_elder' (by (with_reducible repeat (first | apply Kd.R_alloc | apply Kd.R_drewN | apply Kd.R_drew)); exact HO107.out) (Kd.R_base ho0) hb)
     have n1_ := Aside0.mk (Kd.R_below (by (with_reducible repeat (first | apply Kd.R_alloc | apply Kd.R_drewN | apply Kd.R_drew)); exact HO110.out) hb)
     have n2_ := Aside0.mk (Kd.R_below (by (with_reducible repeat (first | apply Kd.R_alloc | apply Kd.R_drewN | apply Kd.R_drew)); exact HO113.out) hb)
     have n3_ := Aside0.mk (Kd.R_lower (Kd.R_new' ho0 (Kd.R_lt (by (with_reducible repeat (first | apply Kd.R_alloc | apply Kd.R_drewN | apply Kd.R_drew)); exact HO107.out))) (below_size (by repeat (first | (with_reducible first | exact HB.out | apply below_alloc | apply pw_below_drewN | apply below_drew1 | refine below_set ?_ GE101.out) | exact HB.out))))
     have n4_ := Aside0.mk (blk_below (g := gb101) (o := .cells #[.int .i64 1, .int .i64 1, .int .i64 1, .int .i64 1, .int .i64 1, .int .i64 0, .int .i64 0, .int .i64 1, .int .i64 1, .int .i64 1, .int .i64 1, .int .i64 0, .int .i64 0] 36 (0, 0)) (by (with_reducible repeat (first | refine blk_drewN ?_ _ | refine blk_drew ?_ | refine blk_alloc ?_ _)); exact BK101.out) hb)
     have n5_ := Aside0.mk (below_step (by repeat (first | (with_reducible first | exact HB.out | apply below_alloc | apply pw_below_drewN | apply below_drew1 | refine below_set ?_ GE101.out) | exact HB.out)) hb)
     clear HO107
     clear HO110
     clear HO113
     clear BK101
     clear HB
     have HO107 := n0_
     have HO110 := n1_
     have HO113 := n2_
     have HO116 := n3_
     have BK101 := n4_
     have HB := n5_
     clear n0_ n1_ n2_ n3_ n4_ n5_
     (try clear hb)
     (try clear hb2)
     (try clear hk)
     (try clear hi)
     (try clear ho0)
     refine hK.out _ _ ⟨(blk_cell BK101.out 0).trans rfl, (blk_cell BK101.out 1).trans rfl, (blk_cell BK101.out 2).trans rfl, (blk_cell BK101.out 3).trans rfl, (blk_cell BK101.out 4).trans rfl, (blk_cell BK101.out 5).trans rfl, (blk_cell BK101.out 6).trans rfl, (blk_cell BK101.out 7).trans rfl, (blk_cell BK101.out 8).trans rfl, (blk_cell BK101.out 9).trans rfl, (blk_cell BK101.out 10).trans rfl, (blk_cell BK101.out 11).trans rfl, (blk_cell BK101.out 12).trans rfl⟩ (fun hHeld => ?_)
     clear hK K
     refine norm_ (a' := ?_) ?_ ?_
     rotate_left
     ·show Act.put _ (some 20) _ = _
      simp only [Act.put, sQ0, sQ1, sQ2, i64_w]
      rfl
     refine pure_ (i := 9) (N := some 3) (v := ?_) (a' := ?_) #[tt,tt,tt,tt,tt,tt,tt,tt,tt,tt,ff] rfl rfl (any_of HT_.out (by kernel_rfl)) (fun _ _ _ h => h) (Or.inl ⟨by rfl, ?_⟩) ?_ ?_
     rotate_left
     ·intro w'
      go_simp
      with_reducible rfl
     rotate_left
     ·simp only [Act.put, sQ0, sQ1, sQ2, i64_w]
      rfl
     refine pure_ (i := 10) (N := some 4) (v := ?_) (a' := ?_) #[tt,tt,tt,tt,tt,tt,tt,tt,tt,tt,tt] rfl rfl (any_of HT_.out (by kernel_rfl)) (fun _ _ _ h => h) (Or.inl ⟨by rfl, ?_⟩) ?_ ?_
     rotate_left
     ·intro w'
      go_simp
      with_reducible rfl
     rotate_left
     ·simp only [Act.put, sQ0, sQ1, sQ2, i64_w]
      rfl
     refine done_ (done_of HT_.out (by kernel_rfl)) ?_
     obtain ⟨Ao21, co21, eo21⟩ := Kd.R_slice HO107.out
     subst eo21
     obtain ⟨Ao22, co22, eo22⟩ := Kd.R_slice HO116.out
     subst eo22
     have p117 : 0 ≤ (0 : Int) := (by omega)
     have q117 : 0 < (t114.length : Int) := of_decide_eq_true (by first | (with_reducible assumption) | assumption)
     obtain ⟨ad117, e117, hx117_0⟩ := Kd.at_int (Kd.R_reads' HO116.out).2.2 0 p117 q117
     cases e117
     have qi117 : (0 < t114.length) = True := eq_true (by omega)
     (try rw [show ((0 : Int)).toNat = 0 from rfl] at hx117_0)
     (try rw [Addr.add_zero'] at hx117_0)
     replace p117 := eq_true p117
     replace q117 := eq_true q117
     try go_wp2
     go_ret
     exact ⟨by first | rfl | (simp [errW_none, errW_some] <;> rfl) | (simp [*, errW_none, errW_some] <;> rfl), by repeat (first | (with_reducible first | exact HB.out | apply below_alloc | apply pw_below_drewN | apply below_drew1 | refine below_set ?_ GE101.out) | exact HB.out)⟩
    ·rw [if_neg c6] at H
     exact absurd H (by simp)
   ·rw [if_neg c5] at H
    have c5b0 : ((t114.length : Int) == 1) = false := beq_eq_false_iff_ne.mpr c5
    have c5b1 : ((t114.length : Int) != 1) = true := bne_iff_ne.mpr c5
    obtain rfl := Option.some.inj H
    go_enter Try.func44, Try.ntmps44
    try go_wp2_with (first | ((with_reducible refine gate_dst (N := 1) rfl ?_); (try (refine gate_guard (by rfl) ?_; dsimp only)); refine box_event ?hg (N := 1) ?hd (cs := #[.int .i64 0, .int .i64 0, .int .i64 0, .int .i64 0, .int .i64 0, .int .i64 0, .int .i64 0, .int .i64 0, .int .i64 0, .int .i64 0, .int .i64 0, .int .i64 0, .int .i64 0]) (t := 36) ?hr ?_; (case hd => rfl); (case hg => rfl); (case hr => first | (go_simp; done) | (go_simp; rfl)); intro gb101 hg w23 hbox hb; have n0_ := Aside0.mk (below_step (by repeat (first | (with_reducible first | exact HB.out | apply below_alloc | apply pw_below_drewN | apply below_drew1) | exact HB.out)) hb); have n1_ := Aside0.mk (hbox); have n2_ := Aside0.mk ((by rw [hg]; exact (below_size (by repeat (first | (with_reducible first | exact HB.out | apply below_alloc | apply pw_below_drewN | apply below_drew1) | exact HB.out))) : w.heap.size ≤ gb101)); have n3_ := Aside0.mk ((by rw [hg]; exact (below_size (by repeat (first | (with_reducible first | exact HB.out | apply below_alloc | apply pw_below_drewN | apply below_drew1) | exact HB.out))) : w.heap.size ≤ gb101)); clear HB; have HB := n0_; have BK101 := n1_; have GW101 := n2_; have GE101 := n3_; clear n0_ n1_ n2_ n3_; clear hb hbox hg; have hcz24_0 : w23.cell? ⟨gb101, 0, none⟩ = some (.int .i64 0) := (blk_cell BK101.out 0).trans rfl; have hcz24_1 : w23.cell? ⟨gb101, 1, none⟩ = some (.int .i64 0) := (blk_cell BK101.out 1).trans rfl; have hcz24_2 : w23.cell? ⟨gb101, 2, none⟩ = some (.int .i64 0) := (blk_cell BK101.out 2).trans rfl; have hcz24_3 : w23.cell? ⟨gb101, 3, none⟩ = some (.int .i64 0) := (blk_cell BK101.out 3).trans rfl; have hcz24_4 : w23.cell? ⟨gb101, 4, none⟩ = some (.int .i64 0) := (blk_cell BK101.out 4).trans rfl; have hcz24_5 : w23.cell? ⟨gb101, 5, none⟩ = some (.int .i64 0) := (blk_cell BK101.out 5).trans rfl; have hcz24_6 : w23.cell? ⟨gb101, 6, none⟩ = some (.int .i64 0) := (blk_cell BK101.out 6).trans rfl; have hcz24_7 : w23.cell? ⟨gb101, 7, none⟩ = some (.int .i64 0) := (blk_cell BK101.out 7).trans rfl; have hcz24_8 : w23.cell? ⟨gb101, 8, none⟩ = some (.int .i64 0) := (blk_cell BK101.out 8).trans rfl; have hcz24_9 : w23.cell? ⟨gb101, 9, none⟩ = some (.int .i64 0) := (blk_cell BK101.out 9).trans rfl; have hcz24_10 : w23.cell? ⟨gb101, 10, none⟩ = some (.int .i64 0) := (blk_cell BK101.out 10).trans rfl; have hcz24_11 : w23.cell? ⟨gb101, 11, none⟩ = some (.int .i64 0) := (blk_cell BK101.out 11).trans rfl; have hcz24_12 : w23.cell? ⟨gb101, 12, none⟩ = some (.int .i64 0) := (blk_cell BK101.out 12).trans rfl; have hfz24_0 := blk_frozen BK101.out 0; have hfz24_1 := blk_frozen BK101.out 1; have hfz24_2 := blk_frozen BK101.out 2; have hfz24_3 := blk_frozen BK101.out 3; have hfz24_4 := blk_frozen BK101.out 4; have hfz24_5 := blk_frozen BK101.out 5; have hfz24_6 := blk_frozen BK101.out 6; have hfz24_7 := blk_frozen BK101.out 7; have hfz24_8 := blk_frozen BK101.out 8; have hfz24_9 := blk_frozen BK101.out 9; have hfz24_10 := blk_frozen BK101.out 10; have hfz24_11 := blk_frozen BK101.out 11; have hfz24_12 := blk_frozen BK101.out 12) | ((with_reducible refine gate_dst (N := 11) rfl ?_); (try (refine gate_guard (by rfl) ?_; dsimp only)); refine Kd.R_lit k60 _ 60 ?hg (N := 11) ?hd (xs := ([(⟨2, 0, 1, 0, 0, 0, 0⟩ : S60), (⟨3, 0, 1, 0, 0, 0, 0⟩ : S60), (⟨5, 0, 1, 0, 0, 0, 0⟩ : S60), (⟨1, 0, 0, 0, 1, 0, 0⟩ : S60), (⟨2, 0, 6, 0, 0, 0, 0⟩ : S60)] : List (S60))) (inner := [.int .i64 2, .int .i64 0, .int .i64 1, .int .i64 0, .int .i64 0, .int .i64 0, .int .i64 0, .int .i64 3, .int .i64 0, .int .i64 1, .int .i64 0, .int .i64 0, .int .i64 0, .int .i64 0, .int .i64 5, .int .i64 0, .int .i64 1, .int .i64 0, .int .i64 0, .int .i64 0, .int .i64 0, .int .i64 1, .int .i64 0, .int .i64 0, .int .i64 0, .int .i64 1, .int .i64 0, .int .i64 0, .int .i64 2, .int .i64 0, .int .i64 6, .int .i64 0, .int .i64 0, .int .i64 0, .int .i64 0]) (ok := fun _ => True) (okp := fun _ => True) ?hr ?hp (fun _ hk => hk) trivial (Below.refl _ _) (Nat.le_refl _) (by simp) ?_; (case hd => rfl); (case hg => rfl); (case hr => first | (go_simp; done) | (go_simp; rfl)); (case hp => exact (Reps.c7 (show Kd.M k60 _ _ _ (⟨2, 0, 1, 0, 0, 0, 0⟩ : S60) [.int .i64 2, .int .i64 0, .int .i64 1, .int .i64 0, .int .i64 0, .int .i64 0, .int .i64 0] from (k60_mkM _ _ _ (⟨2, 0, 1, 0, 0, 0, 0⟩ : S60) )) (Reps.c7 (show Kd.M k60 _ _ _ (⟨3, 0, 1, 0, 0, 0, 0⟩ : S60) [.int .i64 3, .int .i64 0, .int .i64 1, .int .i64 0, .int .i64 0, .int .i64 0, .int .i64 0] from (k60_mkM _ _ _ (⟨3, 0, 1, 0, 0, 0, 0⟩ : S60) )) (Reps.c7 (show Kd.M k60 _ _ _ (⟨5, 0, 1, 0, 0, 0, 0⟩ : S60) [.int .i64 5, .int .i64 0, .int .i64 1, .int .i64 0, .int .i64 0, .int .i64 0, .int .i64 0] from (k60_mkM _ _ _ (⟨5, 0, 1, 0, 0, 0, 0⟩ : S60) )) (Reps.c7 (show Kd.M k60 _ _ _ (⟨1, 0, 0, 0, 1, 0, 0⟩ : S60) [.int .i64 1, .int .i64 0, .int .i64 0, .int .i64 0, .int .i64 1, .int .i64 0, .int .i64 0] from (k60_mkM _ _ _ (⟨1, 0, 0, 0, 1, 0, 0⟩ : S60) )) (Reps.c7 (show Kd.M k60 _ _ _ (⟨2, 0, 6, 0, 0, 0, 0⟩ : S60) [.int .i64 2, .int .i64 0, .int .i64 6, .int .i64 0, .int .i64 0, .int .i64 0, .int .i64 0] from (k60_mkM _ _ _ (⟨2, 0, 6, 0, 0, 0, 0⟩ : S60) )) (Reps.none _ _))))))); intro v103 w25 ho26 hb hg_ hnew_; clear hg_ hnew_; (first | rw [← Ny102.out] at ho26 | (simp only [Int.reduceToNat] at ho26; rw [← Ny102.out] at ho26)); have n0_ := Aside0.mk (Kd.R_lower ho26 (below_size (by repeat (first | (with_reducible first | exact HB.out | apply below_alloc | apply pw_below_drewN | apply below_drew1 | refine below_set ?_ GE101.out) | exact HB.out)))); have n1_ := Aside0.mk (blk_below (g := gb101) (o := .cells #[.int .i64 1, .int .i64 1, .int .i64 1, .int .i64 1, .int .i64 1, .int .i64 0, .int .i64 0, .int .i64 1, .int .i64 1, .int .i64 1, .int .i64 1, .int .i64 0, .int .i64 0] 36 (0, 0)) (by (with_reducible repeat (first | refine blk_drewN ?_ _ | refine blk_drew ?_ | refine blk_alloc ?_ _)); refine blk_put (cs := #[.int .i64 1, .int .i64 1, .int .i64 1, .int .i64 1, .int .i64 1, .int .i64 0, .int .i64 0, .int .i64 1, .int .i64 1, .int .i64 1, .int .i64 1, .int .i64 0, .int .i64 0]) ?_ 12 _ rfl; (with_reducible repeat (first | refine blk_drewN ?_ _ | refine blk_drew ?_ | refine blk_alloc ?_ _)); refine blk_put (cs := #[.int .i64 1, .int .i64 1, .int .i64 1, .int .i64 1, .int .i64 1, .int .i64 0, .int .i64 0, .int .i64 1, .int .i64 1, .int .i64 1, .int .i64 1, .int .i64 0, .int .i64 0]) ?_ 11 _ rfl; (with_reducible repeat (first | refine blk_drewN ?_ _ | refine blk_drew ?_ | refine blk_alloc ?_ _)); refine blk_put (cs := #[.int .i64 1, .int .i64 1, .int .i64 1, .int .i64 1, .int .i64 1, .int .i64 0, .int .i64 0, .int .i64 1, .int .i64 1, .int .i64 1, .int .i64 0, .int .i64 0, .int .i64 0]) ?_ 10 _ rfl; (with_reducible repeat (first | refine blk_drewN ?_ _ | refine blk_drew ?_ | refine blk_alloc ?_ _)); refine blk_put (cs := #[.int .i64 1, .int .i64 1, .int .i64 1, .int .i64 1, .int .i64 1, .int .i64 0, .int .i64 0, .int .i64 1, .int .i64 1, .int .i64 0, .int .i64 0, .int .i64 0, .int .i64 0]) ?_ 9 _ rfl; (with_reducible repeat (first | refine blk_drewN ?_ _ | refine blk_drew ?_ | refine blk_alloc ?_ _)); refine blk_put (cs := #[.int .i64 1, .int .i64 1, .int .i64 1, .int .i64 1, .int .i64 1, .int .i64 0, .int .i64 0, .int .i64 1, .int .i64 0, .int .i64 0, .int .i64 0, .int .i64 0, .int .i64 0]) ?_ 8 _ rfl; (with_reducible repeat (first | refine blk_drewN ?_ _ | refine blk_drew ?_ | refine blk_alloc ?_ _)); refine blk_put (cs := #[.int .i64 1, .int .i64 1, .int .i64 1, .int .i64 1, .int .i64 1, .int .i64 0, .int .i64 0, .int .i64 0, .int .i64 0, .int .i64 0, .int .i64 0, .int .i64 0, .int .i64 0]) ?_ 7 _ rfl; (with_reducible repeat (first | refine blk_drewN ?_ _ | refine blk_drew ?_ | refine blk_alloc ?_ _)); refine blk_put (cs := #[.int .i64 1, .int .i64 1, .int .i64 1, .int .i64 1, .int .i64 1, .int .i64 0, .int .i64 0, .int .i64 0, .int .i64 0, .int .i64 0, .int .i64 0, .int .i64 0, .int .i64 0]) ?_ 6 _ rfl; (with_reducible repeat (first | refine blk_drewN ?_ _ | refine blk_drew ?_ | refine blk_alloc ?_ _)); refine blk_put (cs := #[.int .i64 1, .int .i64 1, .int .i64 1, .int .i64 1, .int .i64 1, .int .i64 0, .int .i64 0, .int .i64 0, .int .i64 0, .int .i64 0, .int .i64 0, .int .i64 0, .int .i64 0]) ?_ 5 _ rfl; (with_reducible repeat (first | refine blk_drewN ?_ _ | refine blk_drew ?_ | refine blk_alloc ?_ _)); refine blk_put (cs := #[.int .i64 1, .int .i64 1, .int .i64 1, .int .i64 1, .int .i64 0, .int .i64 0, .int .i64 0, .int .i64 0, .int .i64 0, .int .i64 0, .int .i64 0, .int .i64 0, .int .i64 0]) ?_ 4 _ rfl; (with_reducible repeat (first | refine blk_drewN ?_ _ | refine blk_drew ?_ | refine blk_alloc ?_ _)); refine blk_put (cs := #[.int .i64 1, .int .i64 1, .int .i64 1, .int .i64 0, .int .i64 0, .int .i64 0, .int .i64 0, .int .i64 0, .int .i64 0, .int .i64 0, .int .i64 0, .int .i64 0, .int .i64 0]) ?_ 3 _ rfl; (with_reducible repeat (first | refine blk_drewN ?_ _ | refine blk_drew ?_ | refine blk_alloc ?_ _)); refine blk_put (cs := #[.int .i64 1, .int .i64 1, .int .i64 0, .int .i64 0, .int .i64 0, .int .i64 0, .int .i64 0, .int .i64 0, .int .i64 0, .int .i64 0, .int .i64 0, .int .i64 0, .int .i64 0]) ?_ 2 _ rfl; (with_reducible repeat (first | refine blk_drewN ?_ _ | refine blk_drew ?_ | refine blk_alloc ?_ _)); refine blk_put (cs := #[.int .i64 1, .int .i64 0, .int .i64 0, .int .i64 0, .int .i64 0, .int .i64 0, .int .i64 0, .int .i64 0, .int .i64 0, .int .i64 0, .int .i64 0, .int .i64 0, .int .i64 0]) ?_ 1 _ rfl; (with_reducible repeat (first | refine blk_drewN ?_ _ | refine blk_drew ?_ | refine blk_alloc ?_ _)); refine blk_put (cs := #[.int .i64 0, .int .i64 0, .int .i64 0, .int .i64 0, .int .i64 0, .int .i64 0, .int .i64 0, .int .i64 0, .int .i64 0, .int .i64 0, .int .i64 0, .int .i64 0, .int .i64 0]) ?_ 0 _ rfl; (with_reducible repeat (first | refine blk_drewN ?_ _ | refine blk_drew ?_ | refine blk_alloc ?_ _)); exact BK101.out) hb); have n2_ := Aside0.mk (below_step (by repeat (first | (with_reducible first | exact HB.out | apply below_alloc | apply pw_below_drewN | apply below_drew1 | refine below_set ?_ GE101.out) | exact HB.out)) hb); clear BK101; clear HB; have HO104 := n0_; have BK101 := n1_; have HB := n2_; clear n0_ n1_ n2_; clear hb ho26; obtain ⟨Ao27, co27, eo27⟩ := Kd.R_slice HO104.out; subst eo27))
    have n0_ := Aside0.mk (Kd.R_drew HO104.out)
    have n1_ := Aside0.mk (blk_drew BK101.out)
    have n2_ := Aside0.mk (below_drew1 HB.out)
    clear HO104
    clear BK101
    clear HB
    have HO104 := n0_
    have BK101 := n1_
    have HB := n2_
    clear n0_ n1_ n2_
    refine start_ (n := 11) (S := fun w' => w'.cell? ⟨gb101, 0, none⟩ = some (.int .i64 1) ∧ w'.cell? ⟨gb101, 1, none⟩ = some (.int .i64 1) ∧ w'.cell? ⟨gb101, 2, none⟩ = some (.int .i64 1) ∧ w'.cell? ⟨gb101, 3, none⟩ = some (.int .i64 1) ∧ w'.cell? ⟨gb101, 4, none⟩ = some (.int .i64 1) ∧ w'.cell? ⟨gb101, 5, none⟩ = some (.int .i64 0) ∧ w'.cell? ⟨gb101, 6, none⟩ = some (.int .i64 0) ∧ w'.cell? ⟨gb101, 7, none⟩ = some (.int .i64 1) ∧ w'.cell? ⟨gb101, 8, none⟩ = some (.int .i64 1) ∧ w'.cell? ⟨gb101, 9, none⟩ = some (.int .i64 1) ∧ w'.cell? ⟨gb101, 10, none⟩ = some (.int .i64 1) ∧ w'.cell? ⟨gb101, 11, none⟩ = some (.int .i64 0) ∧ w'.cell? ⟨gb101, 12, none⟩ = some (.int .i64 0)) (ds := []) #[ff,ff,ff,ff,ff,ff,ff,ff,ff,ff,ff] (by kernel_rfl) rfl rfl ⟨(blk_cell BK101.out 0).trans rfl, (blk_cell BK101.out 1).trans rfl, (blk_cell BK101.out 2).trans rfl, (blk_cell BK101.out 3).trans rfl, (blk_cell BK101.out 4).trans rfl, (blk_cell BK101.out 5).trans rfl, (blk_cell BK101.out 6).trans rfl, (blk_cell BK101.out 7).trans rfl, (blk_cell BK101.out 8).trans rfl, (blk_cell BK101.out 9).trans rfl, (blk_cell BK101.out 10).trans rfl, (blk_cell BK101.out 11).trans rfl, (blk_cell BK101.out 12).trans rfl⟩ (fun hHeld => ?_); refine with_tabW knelllaw25_speaks.tab3 knelllaw25_speaks.bits3 (fun HT_ HW_ => ?_)
    generalize w25.drew = w28 at HO104 BK101 HB hHeld ⊢
    refine pure_ (i := 0) (N := some 12) (v := ?_) (a' := ?_) #[tt,ff,ff,ff,ff,ff,ff,ff,ff,ff,ff] rfl rfl (any_of HT_.out (by kernel_rfl)) (fun _ _ _ h => h) (Or.inl ⟨by rfl, ?_⟩) ?_ ?_
    rotate_left
    ·intro w'
     go_simp
     with_reducible rfl
    rotate_left
    ·simp only [Act.put, sQ0, sQ1, sQ2, i64_w]
     rfl
    refine pure_ (i := 3) (N := some 15) (v := ?_) (a' := ?_) #[tt,ff,ff,tt,ff,ff,ff,ff,ff,ff,ff] rfl rfl (any_of HT_.out (by kernel_rfl)) (fun _ _ _ h => h) (Or.inl ⟨by rfl, ?_⟩) ?_ ?_
    rotate_left
    ·intro w'
     go_simp
     with_reducible rfl
    rotate_left
    ·simp only [Act.put, sQ0, sQ1, sQ2, i64_w]
     rfl
    refine pure_ (i := 4) (N := some 16) (v := ?_) (a' := ?_) #[tt,ff,ff,tt,tt,ff,ff,ff,ff,ff,ff] rfl rfl (any_of HT_.out (by kernel_rfl)) (fun _ _ _ h => h) (Or.inl ⟨by rfl, ?_⟩) ?_ ?_
    rotate_left
    ·intro w'
     go_simp
     with_reducible rfl
    rotate_left
    ·simp only [Act.put, sQ0, sQ1, sQ2, i64_w]
     rfl
    refine take_ (i := 1) (N := some 13) (v := ?_) (a' := ?_) #[tt,tt,ff,tt,tt,ff,ff,ff,ff,ff,ff] rfl rfl (take_ofW HT_.out HW_.out (by kernel_rfl)) (fun _ _ _ h => h) (Or.inl ⟨by rfl, ?_⟩) hHeld ?_ ?_
    rotate_left
    ·rintro w' ⟨s0, s1, s2, s3, s4, s5, s6, s7, s8, s9, s10, s11, s12⟩
     go_simp
     with_reducible rfl
    rotate_left
    ·simp only [Act.put, sQ0, sQ1, sQ2, i64_w]
     rfl
    refine take_ (i := 7) (N := some 19) (v := ?_) (a' := ?_) #[tt,tt,ff,tt,tt,ff,ff,tt,ff,ff,ff] rfl rfl (take_ofW HT_.out HW_.out (by kernel_rfl)) (fun _ _ _ h => h) (Or.inl ⟨by rfl, ?_⟩) hHeld ?_ ?_
    rotate_left
    ·rintro w' ⟨s0, s1, s2, s3, s4, s5, s6, s7, s8, s9, s10, s11, s12⟩
     go_simp
     with_reducible rfl
    rotate_left
    ·simp only [Act.put, sQ0, sQ1, sQ2, i64_w]
     rfl
    refine join_ (σ := Value × Value) 4 #[tt,tt,tt,tt,tt,tt,ff,tt,ff,ff,ff] (fun s_ => [(14, s_.1), (17, s_.2)]) (fun s_ w' => (w'.cell? ⟨gb101, 0, none⟩ = some (.int .i64 1) ∧ w'.cell? ⟨gb101, 1, none⟩ = some (.int .i64 1) ∧ w'.cell? ⟨gb101, 2, none⟩ = some (.int .i64 1) ∧ w'.cell? ⟨gb101, 3, none⟩ = some (.int .i64 1) ∧ w'.cell? ⟨gb101, 4, none⟩ = some (.int .i64 1) ∧ w'.cell? ⟨gb101, 5, none⟩ = some (.int .i64 0) ∧ w'.cell? ⟨gb101, 6, none⟩ = some (.int .i64 0) ∧ w'.cell? ⟨gb101, 7, none⟩ = some (.int .i64 1) ∧ w'.cell? ⟨gb101, 8, none⟩ = some (.int .i64 1) ∧ w'.cell? ⟨gb101, 9, none⟩ = some (.int .i64 1) ∧ w'.cell? ⟨gb101, 10, none⟩ = some (.int .i64 1) ∧ w'.cell? ⟨gb101, 11, none⟩ = some (.int .i64 0) ∧ w'.cell? ⟨gb101, 12, none⟩ = some (.int .i64 0)) ∧ (Kd.R k60 60 w' w.heap.size (fun k_ => some k_ ≠ (s_.2 : Value).ownBlock) (.slice Ao27 y102.length co27) y102) ∧ (Kd.R (Kd.int .i64) 3 w' w.heap.size (fun _ => True) s_.1 t105) ∧ (Kd.R k60 60 w' w.heap.size (fun k_ => some k_ ≠ (.slice Ao27 y102.length co27 : Value).ownBlock) s_.2 y108) ∧ (w'.heap[gb101]? = some (.cells #[.int .i64 1, .int .i64 1, .int .i64 1, .int .i64 1, .int .i64 1, .int .i64 0, .int .i64 0, .int .i64 1, .int .i64 1, .int .i64 1, .int .i64 1, .int .i64 0, .int .i64 0] 36 (0, 0))) ∧ (Below w.heap.size w w')) ?_ ?_
    rotate_left
    ·intro hCont
     refine two_ (i := 2) (j := 5) (Ni := some 14) (Nj := some 17) #[tt,tt,tt,tt,tt,ff,ff,tt,ff,ff,ff] #[tt,tt,ff,tt,tt,tt,ff,tt,ff,ff,ff] rfl rfl rfl rfl (two_of HT_.out (by kernel_rfl)) (by decide) (by decide) (fun K hK => ?_) (fun K hK => ?_)
     ·skip
      refine goes_ Try.func48 (by kernel_rfl) rfl #[.slice Ao27 y102.length co27, .agg #[.int .i64 1, .int .i64 1, .int .i64 1, .int .i64 1, .int .i64 1, .int .i64 0, .int .i64 0, .int .i64 1, .int .i64 1, .int .i64 1, .int .i64 1, .int .i64 0, .int .i64 0]] (by rfl) rfl rfl (by (try simp only [List.map_toArray, List.map_cons, List.map_nil]); first | done | rfl | (simp only [List.length_drop, List.length_take]; rfl)) ?_
      with_reducible refine (verdict_Late.calls _ _ y102 1 1 1 1 1 0 0 1 1 1 1 0 0 t105 _ ?side1 ?side2 A1.out).mono ?_
      (case side1 => repeat (first | exact (Kd.R_reads' HO104.out).2.2 | (with_reducible refine Kd.C_alloc ?_ _) | (with_reducible refine Kd.C_drewN ?_ _) | (with_reducible refine Kd.C_drew ?_)))
      (case side2 => exact (Kd.R_reads' HO104.out).2.1)
      rintro e w29 ⟨v106, rfl, ho0, hb⟩
      refine ⟨_, rfl, ?_⟩
      have n0_ := Aside0.mk (Kd.R_below (by (with_reducible repeat (first | apply Kd.R_alloc | apply Kd.R_drewN | apply Kd.R_drew)); exact HO104.out) hb)
      have n1_ := Aside0.mk (Kd.R_lower ho0 (below_size (by repeat (first | (with_reducible first | exact HB.out | apply below_alloc | apply pw_below_drewN | apply below_drew1 | refine below_set ?_ GE101.out) | exact HB.out))))
      have n2_ := Aside0.mk (blk_below (g := gb101) (o := .cells #[.int .i64 1, .int .i64 1, .int .i64 1, .int .i64 1, .int .i64 1, .int .i64 0, .int .i64 0, .int .i64 1, .int .i64 1, .int .i64 1, .int .i64 1, .int .i64 0, .int .i64 0] 36 (0, 0)) (by (with_reducible repeat (first | refine blk_drewN ?_ _ | refine blk_drew ?_ | refine blk_alloc ?_ _)); exact BK101.out) hb)
      have n3_ := Aside0.mk (below_step (by repeat (first | (with_reducible first | exact HB.out | apply below_alloc | apply pw_below_drewN | apply below_drew1 | refine below_set ?_ GE101.out) | exact HB.out)) hb)
      clear HO104
      clear BK101
      clear HB
      have HO104 := n0_
      have HO107 := n1_
      have BK101 := n2_
      have HB := n3_
      clear n0_ n1_ n2_ n3_
      (try clear hb)
      (try clear hb2)
      (try clear hk)
      (try clear hi)
      (try clear ho0)
      refine hK.out _ _ ⟨(blk_cell BK101.out 0).trans rfl, (blk_cell BK101.out 1).trans rfl, (blk_cell BK101.out 2).trans rfl, (blk_cell BK101.out 3).trans rfl, (blk_cell BK101.out 4).trans rfl, (blk_cell BK101.out 5).trans rfl, (blk_cell BK101.out 6).trans rfl, (blk_cell BK101.out 7).trans rfl, (blk_cell BK101.out 8).trans rfl, (blk_cell BK101.out 9).trans rfl, (blk_cell BK101.out 10).trans rfl, (blk_cell BK101.out 11).trans rfl, (blk_cell BK101.out 12).trans rfl⟩ (fun hHeld => ?_)
      clear hK K
      refine norm_ (a' := ?_) ?_ ?_
      rotate_left
      ·show Act.put _ (some 14) _ = _
       simp only [Act.put, sQ0, sQ1, sQ2, i64_w]
       rfl
      refine one_ (i := 5) (N := some 17) #[tt,tt,tt,tt,tt,tt,ff,tt,ff,ff,ff] rfl rfl (one_of HT_.out (by kernel_rfl)) (by decide) (fun K hK => ?_)
      refine Kd.R_lit_step k60 _ 60 ?hg (N := 17) ?hd (xs := ([(⟨5, 0, 6, 0, 0, 0, 0⟩ : S60)] : List (S60))) (inner := [.int .i64 5, .int .i64 0, .int .i64 6, .int .i64 0, .int .i64 0, .int .i64 0, .int .i64 0]) (ok := fun _ => True) (okp := fun _ => True) ?hr ?hp (fun _ hk => hk) trivial (Below.refl _ _) (Nat.le_refl _) (by simp) ?_; (case hd => rfl); (case hg => rfl); (case hr => first | (go_simp; done) | (go_simp; rfl)); (case hp => exact (Reps.c7 (show Kd.M k60 _ _ _ (⟨5, 0, 6, 0, 0, 0, 0⟩ : S60) [.int .i64 5, .int .i64 0, .int .i64 6, .int .i64 0, .int .i64 0, .int .i64 0, .int .i64 0] from (k60_mkM _ _ _ (⟨5, 0, 6, 0, 0, 0, 0⟩ : S60) )) (Reps.none _ _)))
      intro v109 w30 ho31 hb hg_ hnew_
      clear hg_ hnew_
      (first | rw [← Ny108.out] at ho31 | (simp only [Int.reduceToNat] at ho31; rw [← Ny108.out] at ho31))
      have n0_ := Aside0.mk (Kd.R_elder' (by (with_reducible repeat (first | apply Kd.R_alloc | apply Kd.R_drewN | apply Kd.R_drew)); exact HO104.out) (Kd.R_base ho31) hb)
      have n1_ := Aside0.mk (Kd.R_below (by (with_reducible repeat (first | apply Kd.R_alloc | apply Kd.R_drewN | apply Kd.R_drew)); exact HO107.out) hb)
      have n2_ := Aside0.mk (Kd.R_lower (Kd.R_new' ho31 (Kd.R_lt (by (with_reducible repeat (first | apply Kd.R_alloc | apply Kd.R_drewN | apply Kd.R_drew)); exact HO104.out))) (below_size (by repeat (first | (with_reducible first | exact HB.out | apply below_alloc | apply pw_below_drewN | apply below_drew1 | refine below_set ?_ GE101.out) | exact HB.out))))
      have n3_ := Aside0.mk (blk_below (g := gb101) (o := .cells #[.int .i64 1, .int .i64 1, .int .i64 1, .int .i64 1, .int .i64 1, .int .i64 0, .int .i64 0, .int .i64 1, .int .i64 1, .int .i64 1, .int .i64 1, .int .i64 0, .int .i64 0] 36 (0, 0)) (by (with_reducible repeat (first | refine blk_drewN ?_ _ | refine blk_drew ?_ | refine blk_alloc ?_ _)); exact BK101.out) hb)
      have n4_ := Aside0.mk (below_step (by repeat (first | (with_reducible first | exact HB.out | apply below_alloc | apply pw_below_drewN | apply below_drew1 | refine below_set ?_ GE101.out) | exact HB.out)) hb)
      clear HO104
      clear HO107
      clear BK101
      clear HB
      have HO104 := n0_
      have HO107 := n1_
      have HO110 := n2_
      have BK101 := n3_
      have HB := n4_
      clear n0_ n1_ n2_ n3_ n4_
      clear hb ho31
      refine hK.out _ _ ⟨(blk_cell BK101.out 0).trans rfl, (blk_cell BK101.out 1).trans rfl, (blk_cell BK101.out 2).trans rfl, (blk_cell BK101.out 3).trans rfl, (blk_cell BK101.out 4).trans rfl, (blk_cell BK101.out 5).trans rfl, (blk_cell BK101.out 6).trans rfl, (blk_cell BK101.out 7).trans rfl, (blk_cell BK101.out 8).trans rfl, (blk_cell BK101.out 9).trans rfl, (blk_cell BK101.out 10).trans rfl, (blk_cell BK101.out 11).trans rfl, (blk_cell BK101.out 12).trans rfl⟩ (fun hHeld => ?_)
      clear hK K
      refine norm_ (a' := ?_) ?_ ?_
      rotate_left
      ·show Act.put _ (some 17) _ = _
       simp only [Act.put, sQ0, sQ1, sQ2, i64_w]
       rfl
      exact norm_ (by simp only [putAll, Act.put, sQ0, sQ1, sQ2]) (hCont (v106, v109) _ ⟨hHeld, (by (with_reducible repeat (first | apply Kd.R_alloc | apply Kd.R_drewN | apply Kd.R_drew)); exact Kd.R_mono HO104.out (fun _ hk => hk.2)), (by (with_reducible repeat (first | apply Kd.R_alloc | apply Kd.R_drewN | apply Kd.R_drew)); exact HO107.out), (by (with_reducible repeat (first | apply Kd.R_alloc | apply Kd.R_drewN | apply Kd.R_drew)); exact Kd.R_mono HO110.out (fun _ hk => hk.2)), (by (with_reducible repeat (first | refine blk_drewN ?_ _ | refine blk_drew ?_ | refine blk_alloc ?_ _)); exact BK101.out), (by repeat (first | (with_reducible first | exact HB.out | apply below_alloc | apply pw_below_drewN | apply below_drew1 | refine below_set ?_ GE101.out) | exact HB.out))⟩)
     ·skip
      refine Kd.R_lit_step k60 _ 60 ?hg (N := 17) ?hd (xs := ([(⟨5, 0, 6, 0, 0, 0, 0⟩ : S60)] : List (S60))) (inner := [.int .i64 5, .int .i64 0, .int .i64 6, .int .i64 0, .int .i64 0, .int .i64 0, .int .i64 0]) (ok := fun _ => True) (okp := fun _ => True) ?hr ?hp (fun _ hk => hk) trivial (Below.refl _ _) (Nat.le_refl _) (by simp) ?_; (case hd => rfl); (case hg => rfl); (case hr => first | (go_simp; done) | (go_simp; rfl)); (case hp => exact (Reps.c7 (show Kd.M k60 _ _ _ (⟨5, 0, 6, 0, 0, 0, 0⟩ : S60) [.int .i64 5, .int .i64 0, .int .i64 6, .int .i64 0, .int .i64 0, .int .i64 0, .int .i64 0] from (k60_mkM _ _ _ (⟨5, 0, 6, 0, 0, 0, 0⟩ : S60) )) (Reps.none _ _)))
      intro v109 w29 ho30 hb hg_ hnew_
      clear hg_ hnew_
      (first | rw [← Ny108.out] at ho30 | (simp only [Int.reduceToNat] at ho30; rw [← Ny108.out] at ho30))
      have n0_ := Aside0.mk (Kd.R_elder' (by (with_reducible repeat (first | apply Kd.R_alloc | apply Kd.R_drewN | apply Kd.R_drew)); exact HO104.out) (Kd.R_base ho30) hb)
      have n1_ := Aside0.mk (Kd.R_lower (Kd.R_new' ho30 (Kd.R_lt (by (with_reducible repeat (first | apply Kd.R_alloc | apply Kd.R_drewN | apply Kd.R_drew)); exact HO104.out))) (below_size (by repeat (first | (with_reducible first | exact HB.out | apply below_alloc | apply pw_below_drewN | apply below_drew1 | refine below_set ?_ GE101.out) | exact HB.out))))
      have n2_ := Aside0.mk (blk_below (g := gb101) (o := .cells #[.int .i64 1, .int .i64 1, .int .i64 1, .int .i64 1, .int .i64 1, .int .i64 0, .int .i64 0, .int .i64 1, .int .i64 1, .int .i64 1, .int .i64 1, .int .i64 0, .int .i64 0] 36 (0, 0)) (by (with_reducible repeat (first | refine blk_drewN ?_ _ | refine blk_drew ?_ | refine blk_alloc ?_ _)); exact BK101.out) hb)
      have n3_ := Aside0.mk (below_step (by repeat (first | (with_reducible first | exact HB.out | apply below_alloc | apply pw_below_drewN | apply below_drew1 | refine below_set ?_ GE101.out) | exact HB.out)) hb)
      clear HO104
      clear BK101
      clear HB
      have HO104 := n0_
      have HO110 := n1_
      have BK101 := n2_
      have HB := n3_
      clear n0_ n1_ n2_ n3_
      clear hb ho30
      refine hK.out _ _ ⟨(blk_cell BK101.out 0).trans rfl, (blk_cell BK101.out 1).trans rfl, (blk_cell BK101.out 2).trans rfl, (blk_cell BK101.out 3).trans rfl, (blk_cell BK101.out 4).trans rfl, (blk_cell BK101.out 5).trans rfl, (blk_cell BK101.out 6).trans rfl, (blk_cell BK101.out 7).trans rfl, (blk_cell BK101.out 8).trans rfl, (blk_cell BK101.out 9).trans rfl, (blk_cell BK101.out 10).trans rfl, (blk_cell BK101.out 11).trans rfl, (blk_cell BK101.out 12).trans rfl⟩ (fun hHeld => ?_)
      clear hK K
      refine norm_ (a' := ?_) ?_ ?_
      rotate_left
      ·show Act.put _ (some 17) _ = _
       simp only [Act.put, sQ0, sQ1, sQ2, i64_w]
       rfl
      refine one_ (i := 2) (N := some 14) #[tt,tt,tt,tt,tt,tt,ff,tt,ff,ff,ff] rfl rfl (one_of HT_.out (by kernel_rfl)) (by decide) (fun K hK => ?_)
      refine goes_ Try.func48 (by kernel_rfl) rfl #[.slice Ao27 y102.length co27, .agg #[.int .i64 1, .int .i64 1, .int .i64 1, .int .i64 1, .int .i64 1, .int .i64 0, .int .i64 0, .int .i64 1, .int .i64 1, .int .i64 1, .int .i64 1, .int .i64 0, .int .i64 0]] (by rfl) rfl rfl (by (try simp only [List.map_toArray, List.map_cons, List.map_nil]); first | done | rfl | (simp only [List.length_drop, List.length_take]; rfl)) ?_
      with_reducible refine (verdict_Late.calls _ _ y102 1 1 1 1 1 0 0 1 1 1 1 0 0 t105 _ ?side1 ?side2 A1.out).mono ?_
      (case side1 => repeat (first | exact (Kd.R_reads' HO104.out).2.2 | (with_reducible refine Kd.C_alloc ?_ _) | (with_reducible refine Kd.C_drewN ?_ _) | (with_reducible refine Kd.C_drew ?_)))
      (case side2 => exact (Kd.R_reads' HO104.out).2.1)
      rintro e w31 ⟨v106, rfl, ho0, hb⟩
      refine ⟨_, rfl, ?_⟩
      have n0_ := Aside0.mk (Kd.R_below (by (with_reducible repeat (first | apply Kd.R_alloc | apply Kd.R_drewN | apply Kd.R_drew)); exact HO104.out) hb)
      have n1_ := Aside0.mk (Kd.R_below (by (with_reducible repeat (first | apply Kd.R_alloc | apply Kd.R_drewN | apply Kd.R_drew)); exact HO110.out) hb)
      have n2_ := Aside0.mk (Kd.R_lower ho0 (below_size (by repeat (first | (with_reducible first | exact HB.out | apply below_alloc | apply pw_below_drewN | apply below_drew1 | refine below_set ?_ GE101.out) | exact HB.out))))
      have n3_ := Aside0.mk (blk_below (g := gb101) (o := .cells #[.int .i64 1, .int .i64 1, .int .i64 1, .int .i64 1, .int .i64 1, .int .i64 0, .int .i64 0, .int .i64 1, .int .i64 1, .int .i64 1, .int .i64 1, .int .i64 0, .int .i64 0] 36 (0, 0)) (by (with_reducible repeat (first | refine blk_drewN ?_ _ | refine blk_drew ?_ | refine blk_alloc ?_ _)); exact BK101.out) hb)
      have n4_ := Aside0.mk (below_step (by repeat (first | (with_reducible first | exact HB.out | apply below_alloc | apply pw_below_drewN | apply below_drew1 | refine below_set ?_ GE101.out) | exact HB.out)) hb)
      clear HO104
      clear HO110
      clear BK101
      clear HB
      have HO104 := n0_
      have HO110 := n1_
      have HO107 := n2_
      have BK101 := n3_
      have HB := n4_
      clear n0_ n1_ n2_ n3_ n4_
      (try clear hb)
      (try clear hb2)
      (try clear hk)
      (try clear hi)
      (try clear ho0)
      refine hK.out _ _ ⟨(blk_cell BK101.out 0).trans rfl, (blk_cell BK101.out 1).trans rfl, (blk_cell BK101.out 2).trans rfl, (blk_cell BK101.out 3).trans rfl, (blk_cell BK101.out 4).trans rfl, (blk_cell BK101.out 5).trans rfl, (blk_cell BK101.out 6).trans rfl, (blk_cell BK101.out 7).trans rfl, (blk_cell BK101.out 8).trans rfl, (blk_cell BK101.out 9).trans rfl, (blk_cell BK101.out 10).trans rfl, (blk_cell BK101.out 11).trans rfl, (blk_cell BK101.out 12).trans rfl⟩ (fun hHeld => ?_)
      clear hK K
      refine norm_ (a' := ?_) ?_ ?_
      rotate_left
      ·show Act.put _ (some 14) _ = _
       simp only [Act.put, sQ0, sQ1, sQ2, i64_w]
       rfl
      exact norm_ (by simp only [putAll, Act.put, sQ0, sQ1, sQ2]) (hCont (v106, v109) _ ⟨hHeld, (by (with_reducible repeat (first | apply Kd.R_alloc | apply Kd.R_drewN | apply Kd.R_drew)); exact Kd.R_mono HO104.out (fun _ hk => hk.2)), (by (with_reducible repeat (first | apply Kd.R_alloc | apply Kd.R_drewN | apply Kd.R_drew)); exact HO107.out), (by (with_reducible repeat (first | apply Kd.R_alloc | apply Kd.R_drewN | apply Kd.R_drew)); exact Kd.R_mono HO110.out (fun _ hk => hk.2)), (by (with_reducible repeat (first | refine blk_drewN ?_ _ | refine blk_drew ?_ | refine blk_alloc ?_ _)); exact BK101.out), (by repeat (first | (with_reducible first | exact HB.out | apply below_alloc | apply pw_below_drewN | apply below_drew1 | refine below_set ?_ GE101.out) | exact HB.out))⟩)
    rintro ⟨v106, v109⟩ w32 ⟨hS_, h0_, h1_, h2_, h3_, h4_⟩
    have n0_ : Aside0 (Kd.R k60 60 w32 w.heap.size (fun k_ => some k_ ≠ (v109 : Value).ownBlock) (.slice Ao27 y102.length co27) y102) := ⟨h0_⟩
    have n1_ : Aside0 (Kd.R (Kd.int .i64) 3 w32 w.heap.size (fun _ => True) v106 t105) := ⟨h1_⟩
    have n2_ : Aside0 (Kd.R k60 60 w32 w.heap.size (fun k_ => some k_ ≠ (.slice Ao27 y102.length co27 : Value).ownBlock) v109 y108) := ⟨h2_⟩
    have n3_ : Aside0 (w32.heap[gb101]? = some (.cells #[.int .i64 1, .int .i64 1, .int .i64 1, .int .i64 1, .int .i64 1, .int .i64 0, .int .i64 0, .int .i64 1, .int .i64 1, .int .i64 1, .int .i64 1, .int .i64 0, .int .i64 0] 36 (0, 0))) := ⟨h3_⟩
    have n4_ : Aside0 (Below w.heap.size w w32) := ⟨h4_⟩
    clear HO104
    clear BK101
    clear HB
    clear h0_ h1_ h2_ h3_ h4_
    have HO104 := n0_
    have HO107 := n1_
    have HO110 := n2_
    have BK101 := n3_
    have HB := n4_
    clear n0_ n1_ n2_ n3_ n4_
    have hHeld : w32.cell? ⟨gb101, 0, none⟩ = some (.int .i64 1) ∧ w32.cell? ⟨gb101, 1, none⟩ = some (.int .i64 1) ∧ w32.cell? ⟨gb101, 2, none⟩ = some (.int .i64 1) ∧ w32.cell? ⟨gb101, 3, none⟩ = some (.int .i64 1) ∧ w32.cell? ⟨gb101, 4, none⟩ = some (.int .i64 1) ∧ w32.cell? ⟨gb101, 5, none⟩ = some (.int .i64 0) ∧ w32.cell? ⟨gb101, 6, none⟩ = some (.int .i64 0) ∧ w32.cell? ⟨gb101, 7, none⟩ = some (.int .i64 1) ∧ w32.cell? ⟨gb101, 8, none⟩ = some (.int .i64 1) ∧ w32.cell? ⟨gb101, 9, none⟩ = some (.int .i64 1) ∧ w32.cell? ⟨gb101, 10, none⟩ = some (.int .i64 1) ∧ w32.cell? ⟨gb101, 11, none⟩ = some (.int .i64 0) ∧ w32.cell? ⟨gb101, 12, none⟩ = some (.int .i64 0) := hS_
    obtain ⟨Ao34, co34, eo34⟩ := Kd.R_slice HO110.out
    (first | subst eo34 | (injection eo34 with f1_ f2_ f3_; have f4_ := f1_.symm; have f5_ := f3_.symm; clear f1_ f2_ f3_; subst f4_; subst f5_))
    refine norm_ (a' := ?_) ?_ ?_
    rotate_left
    ·simp only [putAll, Act.put, sQ0, sQ1, sQ2]
     rfl
    refine one_ (i := 6) (N := some 18) #[tt,tt,tt,tt,tt,tt,tt,tt,ff,ff,ff] rfl rfl (one_of HT_.out (by kernel_rfl)) (by decide) (fun K hK => ?_)
    refine Kd.R_append_rows_step k60 (w0 := w) w.heap.size (by rfl) (.tmp 15) (.tmp 17) 73 60 (.agg #[(.int .i64 0), (.int .i64 0), (.int .i64 0), (.int .i64 0), (.int .i64 0), (.int .i64 0), (.int .i64 0)]) 56 rfl Try.underlying73 info60 rfl (by decide) (by omega) (.slice Ao27 y102.length co27) y102 y108 _ _ _ (fun k_ => some k_ ≠ (.slice Ao34 y108.length co34 : Value).ownBlock) (fun _ => False) rfl rfl ?aO ?aR (fun _ _ h => h) (fun _ h => h.elim) ?aF ?aB ?aS ?aL ?_
    (case aR => repeat (first | exact (Kd.R_reads' HO110.out).2.2 | (with_reducible refine Kd.C_alloc ?_ _) | (with_reducible refine Kd.C_drewN ?_ _) | (with_reducible refine Kd.C_drew ?_)))
    (case aB => exact (by repeat (first | (with_reducible first | exact HB.out | apply below_alloc | apply pw_below_drewN | apply below_drew1 | refine below_set ?_ GE101.out) | exact HB.out)))
    (case aF => exact (fun k_ hk => Kd.fresh' (Kd.R_lt (by (with_reducible repeat (first | apply Kd.R_alloc | apply Kd.R_drewN | apply Kd.R_drew)); exact HO110.out)) k_ hk))
    (case aO => exact (by (with_reducible repeat (first | apply Kd.R_alloc | apply Kd.R_drewN | apply Kd.R_drew)); exact HO104.out))
    (case aS => exact (below_size (by repeat (first | (with_reducible first | exact HB.out | apply below_alloc | apply pw_below_drewN | apply below_drew1 | refine below_set ?_ GE101.out) | exact HB.out))))
    (case aL => have := LMc2.out; omega)
    intro v112 w33 ho hb hg hat
    rw [← Ny111.out] at ho
    have n0_ := Aside0.mk (blk_grown (g := gb101) (o := .cells #[.int .i64 1, .int .i64 1, .int .i64 1, .int .i64 1, .int .i64 1, .int .i64 0, .int .i64 0, .int .i64 1, .int .i64 1, .int .i64 1, .int .i64 1, .int .i64 0, .int .i64 0] 36 (0, 0)) (by (with_reducible repeat (first | refine blk_drewN ?_ _ | refine blk_drew ?_ | refine blk_alloc ?_ _)); exact BK101.out) hg (Kd.R_ne HO104.out BK101.out (by decide)))
    have n1_ := Aside0.mk (Kd.R_over' (by (with_reducible repeat (first | apply Kd.R_alloc | apply Kd.R_drewN | apply Kd.R_drew)); exact HO107.out) (Kd.R_typed (by (with_reducible repeat (first | apply Kd.R_alloc | apply Kd.R_drewN | apply Kd.R_drew)); exact HO104.out)) (by decide) hg)
    have n2_ := Aside0.mk (Kd.R_after (ok := (fun _ => True)) (by (with_reducible repeat (first | apply Kd.R_alloc | apply Kd.R_drewN | apply Kd.R_drew)); exact Kd.R_mono HO110.out (fun _ hk => ⟨trivial, hk⟩)) hg hat)
    have n3_ := Aside0.mk (hb)
    have n4_ := Aside0.mk (ho)
    clear BK101
    clear HO107
    clear HO110
    clear HB
    clear HO104
    have BK101 := n0_
    have HO107 := n1_
    have HO110 := n2_
    have HB := n3_
    have HO113 := n4_
    clear n0_ n1_ n2_ n3_ n4_
    clear ho hb hg hat
    obtain ⟨Ao35, co35, eo35⟩ := Kd.R_slice HO113.out
    (first | subst eo35 | (injection eo35 with f1_ f2_ f3_; have f4_ := f1_.symm; have f5_ := f3_.symm; clear f1_ f2_ f3_; subst f4_; subst f5_))
    refine hK.out _ _ ⟨(blk_cell BK101.out 0).trans rfl, (blk_cell BK101.out 1).trans rfl, (blk_cell BK101.out 2).trans rfl, (blk_cell BK101.out 3).trans rfl, (blk_cell BK101.out 4).trans rfl, (blk_cell BK101.out 5).trans rfl, (blk_cell BK101.out 6).trans rfl, (blk_cell BK101.out 7).trans rfl, (blk_cell BK101.out 8).trans rfl, (blk_cell BK101.out 9).trans rfl, (blk_cell BK101.out 10).trans rfl, (blk_cell BK101.out 11).trans rfl, (blk_cell BK101.out 12).trans rfl⟩ (fun hHeld => ?_)
    clear hK K
    refine norm_ (a' := ?_) ?_ ?_
    rotate_left
    ·show Act.put _ (some 18) _ = _
     simp only [Act.put, sQ0, sQ1, sQ2, i64_w]
     rfl
    refine one_ (i := 8) (N := some 20) #[tt,tt,tt,tt,tt,tt,tt,tt,tt,ff,ff] rfl rfl (one_of HT_.out (by kernel_rfl)) (by decide) (fun K hK => ?_)
    refine goes_ Try.func48 (by kernel_rfl) rfl #[.slice Ao35 y111.length co35, .agg #[.int .i64 1, .int .i64 1, .int .i64 1, .int .i64 1, .int .i64 1, .int .i64 0, .int .i64 0, .int .i64 1, .int .i64 1, .int .i64 1, .int .i64 1, .int .i64 0, .int .i64 0]] (by rfl) rfl rfl (by (try simp only [List.map_toArray, List.map_cons, List.map_nil]); first | done | rfl | (simp only [List.length_drop, List.length_take]; rfl)) ?_
    with_reducible refine (verdict_Late.calls _ _ y111 1 1 1 1 1 0 0 1 1 1 1 0 0 t114 _ ?side1 ?side2 A3.out).mono ?_
    (case side1 => repeat (first | exact (Kd.R_reads' HO113.out).2.2 | (with_reducible refine Kd.C_alloc ?_ _) | (with_reducible refine Kd.C_drewN ?_ _) | (with_reducible refine Kd.C_drew ?_)))
    (case side2 => exact (Kd.R_reads' HO113.out).2.1)
    rintro e w36 ⟨v115, rfl, ho0, hb⟩
    refine ⟨_, rfl, ?_⟩
    have n0_ := Aside0.mk (Kd.R_elder' (by (with_reducible repeat (first | apply Kd.R_alloc | apply Kd.R_drewN | apply Kd.R_drew)); exact HO107.out) (Kd.R_base ho0) hb)
    have n1_ := Aside0.mk (Kd.R_below (by (with_reducible repeat (first | apply Kd.R_alloc | apply Kd.R_drewN | apply Kd.R_drew)); exact HO110.out) hb)
    have n2_ := Aside0.mk (Kd.R_below (by (with_reducible repeat (first | apply Kd.R_alloc | apply Kd.R_drewN | apply Kd.R_drew)); exact HO113.out) hb)
    have n3_ := Aside0.mk (Kd.R_lower (Kd.R_new' ho0 (Kd.R_lt (by (with_reducible repeat (first | apply Kd.R_alloc | apply Kd.R_drewN | apply Kd.R_drew)); exact HO107.out))) (below_size (by repeat (first | (with_reducible first | exact HB.out | apply below_alloc | apply pw_below_drewN | apply below_drew1 | refine below_set ?_ GE101.out) | exact HB.out))))
    have n4_ := Aside0.mk (blk_below (g := gb101) (o := .cells #[.int .i64 1, .int .i64 1, .int .i64 1, .int .i64 1, .int .i64 1, .int .i64 0, .int .i64 0, .int .i64 1, .int .i64 1, .int .i64 1, .int .i64 1, .int .i64 0, .int .i64 0] 36 (0, 0)) (by (with_reducible repeat (first | refine blk_drewN ?_ _ | refine blk_drew ?_ | refine blk_alloc ?_ _)); exact BK101.out) hb)
    have n5_ := Aside0.mk (below_step (by repeat (first | (with_reducible first | exact HB.out | apply below_alloc | apply pw_below_drewN | apply below_drew1 | refine below_set ?_ GE101.out) | exact HB.out)) hb)
    clear HO107
    clear HO110
    clear HO113
    clear BK101
    clear HB
    have HO107 := n0_
    have HO110 := n1_
    have HO113 := n2_
    have HO116 := n3_
    have BK101 := n4_
    have HB := n5_
    clear n0_ n1_ n2_ n3_ n4_ n5_
    (try clear hb)
    (try clear hb2)
    (try clear hk)
    (try clear hi)
    (try clear ho0)
    refine hK.out _ _ ⟨(blk_cell BK101.out 0).trans rfl, (blk_cell BK101.out 1).trans rfl, (blk_cell BK101.out 2).trans rfl, (blk_cell BK101.out 3).trans rfl, (blk_cell BK101.out 4).trans rfl, (blk_cell BK101.out 5).trans rfl, (blk_cell BK101.out 6).trans rfl, (blk_cell BK101.out 7).trans rfl, (blk_cell BK101.out 8).trans rfl, (blk_cell BK101.out 9).trans rfl, (blk_cell BK101.out 10).trans rfl, (blk_cell BK101.out 11).trans rfl, (blk_cell BK101.out 12).trans rfl⟩ (fun hHeld => ?_)
    clear hK K
    refine norm_ (a' := ?_) ?_ ?_
    rotate_left
    ·show Act.put _ (some 20) _ = _
     simp only [Act.put, sQ0, sQ1, sQ2, i64_w]
     rfl
    refine pure_ (i := 9) (N := some 3) (v := ?_) (a' := ?_) #[tt,tt,tt,tt,tt,tt,tt,tt,tt,tt,ff] rfl rfl (any_of HT_.out (by kernel_rfl)) (fun _ _ _ h => h) (Or.inl ⟨by rfl, ?_⟩) ?_ ?_
    rotate_left
    ·intro w'
     go_simp
     with_reducible rfl
    rotate_left
    ·simp only [Act.put, sQ0, sQ1, sQ2, i64_w]
     rfl
    refine pure_ (i := 10) (N := some 4) (v := ?_) (a' := ?_) #[tt,tt,tt,tt,tt,tt,tt,tt,tt,tt,tt] rfl rfl (any_of HT_.out (by kernel_rfl)) (fun _ _ _ h => h) (Or.inl ⟨by rfl, ?_⟩) ?_ ?_
    rotate_left
    ·intro w'
     go_simp
     with_reducible rfl
    rotate_left
    ·simp only [Act.put, sQ0, sQ1, sQ2, i64_w]
     rfl
    refine done_ (done_of HT_.out (by kernel_rfl)) ?_
    obtain ⟨Ao37, co37, eo37⟩ := Kd.R_slice HO107.out
    subst eo37
    obtain ⟨Ao38, co38, eo38⟩ := Kd.R_slice HO116.out
    subst eo38
    try go_wp2
    go_ret
    exact ⟨by first | rfl | (simp [errW_none, errW_some] <;> rfl) | (simp [*, errW_none, errW_some] <;> rfl), by repeat (first | (with_reducible first | exact HB.out | apply below_alloc | apply pw_below_drewN | apply below_drew1 | refine below_set ?_ GE101.out) | exact HB.out)⟩
  ·rw [if_neg c4] at H
   have c4b0 : ((t105.length : Int) == 0) = false := beq_eq_false_iff_ne.mpr c4
   have c4b1 : ((t105.length : Int) != 0) = true := bne_iff_ne.mpr c4
   have c4b2 : ¬ (t105 = []) := fun h_ => c4 (by rw [h_]; rfl)
   obtain rfl := Option.some.inj H
   go_enter Try.func44, Try.ntmps44
   try go_wp2_with (first | ((with_reducible refine gate_dst (N := 1) rfl ?_); (try (refine gate_guard (by rfl) ?_; dsimp only)); refine box_event ?hg (N := 1) ?hd (cs := #[.int .i64 0, .int .i64 0, .int .i64 0, .int .i64 0, .int .i64 0, .int .i64 0, .int .i64 0, .int .i64 0, .int .i64 0, .int .i64 0, .int .i64 0, .int .i64 0, .int .i64 0]) (t := 36) ?hr ?_; (case hd => rfl); (case hg => rfl); (case hr => first | (go_simp; done) | (go_simp; rfl)); intro gb101 hg w39 hbox hb; have n0_ := Aside0.mk (below_step (by repeat (first | (with_reducible first | exact HB.out | apply below_alloc | apply pw_below_drewN | apply below_drew1) | exact HB.out)) hb); have n1_ := Aside0.mk (hbox); have n2_ := Aside0.mk ((by rw [hg]; exact (below_size (by repeat (first | (with_reducible first | exact HB.out | apply below_alloc | apply pw_below_drewN | apply below_drew1) | exact HB.out))) : w.heap.size ≤ gb101)); have n3_ := Aside0.mk ((by rw [hg]; exact (below_size (by repeat (first | (with_reducible first | exact HB.out | apply below_alloc | apply pw_below_drewN | apply below_drew1) | exact HB.out))) : w.heap.size ≤ gb101)); clear HB; have HB := n0_; have BK101 := n1_; have GW101 := n2_; have GE101 := n3_; clear n0_ n1_ n2_ n3_; clear hb hbox hg; have hcz40_0 : w39.cell? ⟨gb101, 0, none⟩ = some (.int .i64 0) := (blk_cell BK101.out 0).trans rfl; have hcz40_1 : w39.cell? ⟨gb101, 1, none⟩ = some (.int .i64 0) := (blk_cell BK101.out 1).trans rfl; have hcz40_2 : w39.cell? ⟨gb101, 2, none⟩ = some (.int .i64 0) := (blk_cell BK101.out 2).trans rfl; have hcz40_3 : w39.cell? ⟨gb101, 3, none⟩ = some (.int .i64 0) := (blk_cell BK101.out 3).trans rfl; have hcz40_4 : w39.cell? ⟨gb101, 4, none⟩ = some (.int .i64 0) := (blk_cell BK101.out 4).trans rfl; have hcz40_5 : w39.cell? ⟨gb101, 5, none⟩ = some (.int .i64 0) := (blk_cell BK101.out 5).trans rfl; have hcz40_6 : w39.cell? ⟨gb101, 6, none⟩ = some (.int .i64 0) := (blk_cell BK101.out 6).trans rfl; have hcz40_7 : w39.cell? ⟨gb101, 7, none⟩ = some (.int .i64 0) := (blk_cell BK101.out 7).trans rfl; have hcz40_8 : w39.cell? ⟨gb101, 8, none⟩ = some (.int .i64 0) := (blk_cell BK101.out 8).trans rfl; have hcz40_9 : w39.cell? ⟨gb101, 9, none⟩ = some (.int .i64 0) := (blk_cell BK101.out 9).trans rfl; have hcz40_10 : w39.cell? ⟨gb101, 10, none⟩ = some (.int .i64 0) := (blk_cell BK101.out 10).trans rfl; have hcz40_11 : w39.cell? ⟨gb101, 11, none⟩ = some (.int .i64 0) := (blk_cell BK101.out 11).trans rfl; have hcz40_12 : w39.cell? ⟨gb101, 12, none⟩ = some (.int .i64 0) := (blk_cell BK101.out 12).trans rfl; have hfz40_0 := blk_frozen BK101.out 0; have hfz40_1 := blk_frozen BK101.out 1; have hfz40_2 := blk_frozen BK101.out 2; have hfz40_3 := blk_frozen BK101.out 3; have hfz40_4 := blk_frozen BK101.out 4; have hfz40_5 := blk_frozen BK101.out 5; have hfz40_6 := blk_frozen BK101.out 6; have hfz40_7 := blk_frozen BK101.out 7; have hfz40_8 := blk_frozen BK101.out 8; have hfz40_9 := blk_frozen BK101.out 9; have hfz40_10 := blk_frozen BK101.out 10; have hfz40_11 := blk_frozen BK101.out 11; have hfz40_12 := blk_frozen BK101.out 12) | ((with_reducible refine gate_dst (N := 11) rfl ?_); (try (refine gate_guard (by rfl) ?_; dsimp only)); refine Kd.R_lit k60 _ 60 ?hg (N := 11) ?hd (xs := ([(⟨2, 0, 1, 0, 0, 0, 0⟩ : S60), (⟨3, 0, 1, 0, 0, 0, 0⟩ : S60), (⟨5, 0, 1, 0, 0, 0, 0⟩ : S60), (⟨1, 0, 0, 0, 1, 0, 0⟩ : S60), (⟨2, 0, 6, 0, 0, 0, 0⟩ : S60)] : List (S60))) (inner := [.int .i64 2, .int .i64 0, .int .i64 1, .int .i64 0, .int .i64 0, .int .i64 0, .int .i64 0, .int .i64 3, .int .i64 0, .int .i64 1, .int .i64 0, .int .i64 0, .int .i64 0, .int .i64 0, .int .i64 5, .int .i64 0, .int .i64 1, .int .i64 0, .int .i64 0, .int .i64 0, .int .i64 0, .int .i64 1, .int .i64 0, .int .i64 0, .int .i64 0, .int .i64 1, .int .i64 0, .int .i64 0, .int .i64 2, .int .i64 0, .int .i64 6, .int .i64 0, .int .i64 0, .int .i64 0, .int .i64 0]) (ok := fun _ => True) (okp := fun _ => True) ?hr ?hp (fun _ hk => hk) trivial (Below.refl _ _) (Nat.le_refl _) (by simp) ?_; (case hd => rfl); (case hg => rfl); (case hr => first | (go_simp; done) | (go_simp; rfl)); (case hp => exact (Reps.c7 (show Kd.M k60 _ _ _ (⟨2, 0, 1, 0, 0, 0, 0⟩ : S60) [.int .i64 2, .int .i64 0, .int .i64 1, .int .i64 0, .int .i64 0, .int .i64 0, .int .i64 0] from (k60_mkM _ _ _ (⟨2, 0, 1, 0, 0, 0, 0⟩ : S60) )) (Reps.c7 (show Kd.M k60 _ _ _ (⟨3, 0, 1, 0, 0, 0, 0⟩ : S60) [.int .i64 3, .int .i64 0, .int .i64 1, .int .i64 0, .int .i64 0, .int .i64 0, .int .i64 0] from (k60_mkM _ _ _ (⟨3, 0, 1, 0, 0, 0, 0⟩ : S60) )) (Reps.c7 (show Kd.M k60 _ _ _ (⟨5, 0, 1, 0, 0, 0, 0⟩ : S60) [.int .i64 5, .int .i64 0, .int .i64 1, .int .i64 0, .int .i64 0, .int .i64 0, .int .i64 0] from (k60_mkM _ _ _ (⟨5, 0, 1, 0, 0, 0, 0⟩ : S60) )) (Reps.c7 (show Kd.M k60 _ _ _ (⟨1, 0, 0, 0, 1, 0, 0⟩ : S60) [.int .i64 1, .int .i64 0, .int .i64 0, .int .i64 0, .int .i64 1, .int .i64 0, .int .i64 0] from (k60_mkM _ _ _ (⟨1, 0, 0, 0, 1, 0, 0⟩ : S60) )) (Reps.c7 (show Kd.M k60 _ _ _ (⟨2, 0, 6, 0, 0, 0, 0⟩ : S60) [.int .i64 2, .int .i64 0, .int .i64 6, .int .i64 0, .int .i64 0, .int .i64 0, .int .i64 0] from (k60_mkM _ _ _ (⟨2, 0, 6, 0, 0, 0, 0⟩ : S60) )) (Reps.none _ _))))))); intro v103 w41 ho42 hb hg_ hnew_; clear hg_ hnew_; (first | rw [← Ny102.out] at ho42 | (simp only [Int.reduceToNat] at ho42; rw [← Ny102.out] at ho42)); have n0_ := Aside0.mk (Kd.R_lower ho42 (below_size (by repeat (first | (with_reducible first | exact HB.out | apply below_alloc | apply pw_below_drewN | apply below_drew1 | refine below_set ?_ GE101.out) | exact HB.out)))); have n1_ := Aside0.mk (blk_below (g := gb101) (o := .cells #[.int .i64 1, .int .i64 1, .int .i64 1, .int .i64 1, .int .i64 1, .int .i64 0, .int .i64 0, .int .i64 1, .int .i64 1, .int .i64 1, .int .i64 1, .int .i64 0, .int .i64 0] 36 (0, 0)) (by (with_reducible repeat (first | refine blk_drewN ?_ _ | refine blk_drew ?_ | refine blk_alloc ?_ _)); refine blk_put (cs := #[.int .i64 1, .int .i64 1, .int .i64 1, .int .i64 1, .int .i64 1, .int .i64 0, .int .i64 0, .int .i64 1, .int .i64 1, .int .i64 1, .int .i64 1, .int .i64 0, .int .i64 0]) ?_ 12 _ rfl; (with_reducible repeat (first | refine blk_drewN ?_ _ | refine blk_drew ?_ | refine blk_alloc ?_ _)); refine blk_put (cs := #[.int .i64 1, .int .i64 1, .int .i64 1, .int .i64 1, .int .i64 1, .int .i64 0, .int .i64 0, .int .i64 1, .int .i64 1, .int .i64 1, .int .i64 1, .int .i64 0, .int .i64 0]) ?_ 11 _ rfl; (with_reducible repeat (first | refine blk_drewN ?_ _ | refine blk_drew ?_ | refine blk_alloc ?_ _)); refine blk_put (cs := #[.int .i64 1, .int .i64 1, .int .i64 1, .int .i64 1, .int .i64 1, .int .i64 0, .int .i64 0, .int .i64 1, .int .i64 1, .int .i64 1, .int .i64 0, .int .i64 0, .int .i64 0]) ?_ 10 _ rfl; (with_reducible repeat (first | refine blk_drewN ?_ _ | refine blk_drew ?_ | refine blk_alloc ?_ _)); refine blk_put (cs := #[.int .i64 1, .int .i64 1, .int .i64 1, .int .i64 1, .int .i64 1, .int .i64 0, .int .i64 0, .int .i64 1, .int .i64 1, .int .i64 0, .int .i64 0, .int .i64 0, .int .i64 0]) ?_ 9 _ rfl; (with_reducible repeat (first | refine blk_drewN ?_ _ | refine blk_drew ?_ | refine blk_alloc ?_ _)); refine blk_put (cs := #[.int .i64 1, .int .i64 1, .int .i64 1, .int .i64 1, .int .i64 1, .int .i64 0, .int .i64 0, .int .i64 1, .int .i64 0, .int .i64 0, .int .i64 0, .int .i64 0, .int .i64 0]) ?_ 8 _ rfl; (with_reducible repeat (first | refine blk_drewN ?_ _ | refine blk_drew ?_ | refine blk_alloc ?_ _)); refine blk_put (cs := #[.int .i64 1, .int .i64 1, .int .i64 1, .int .i64 1, .int .i64 1, .int .i64 0, .int .i64 0, .int .i64 0, .int .i64 0, .int .i64 0, .int .i64 0, .int .i64 0, .int .i64 0]) ?_ 7 _ rfl; (with_reducible repeat (first | refine blk_drewN ?_ _ | refine blk_drew ?_ | refine blk_alloc ?_ _)); refine blk_put (cs := #[.int .i64 1, .int .i64 1, .int .i64 1, .int .i64 1, .int .i64 1, .int .i64 0, .int .i64 0, .int .i64 0, .int .i64 0, .int .i64 0, .int .i64 0, .int .i64 0, .int .i64 0]) ?_ 6 _ rfl; (with_reducible repeat (first | refine blk_drewN ?_ _ | refine blk_drew ?_ | refine blk_alloc ?_ _)); refine blk_put (cs := #[.int .i64 1, .int .i64 1, .int .i64 1, .int .i64 1, .int .i64 1, .int .i64 0, .int .i64 0, .int .i64 0, .int .i64 0, .int .i64 0, .int .i64 0, .int .i64 0, .int .i64 0]) ?_ 5 _ rfl; (with_reducible repeat (first | refine blk_drewN ?_ _ | refine blk_drew ?_ | refine blk_alloc ?_ _)); refine blk_put (cs := #[.int .i64 1, .int .i64 1, .int .i64 1, .int .i64 1, .int .i64 0, .int .i64 0, .int .i64 0, .int .i64 0, .int .i64 0, .int .i64 0, .int .i64 0, .int .i64 0, .int .i64 0]) ?_ 4 _ rfl; (with_reducible repeat (first | refine blk_drewN ?_ _ | refine blk_drew ?_ | refine blk_alloc ?_ _)); refine blk_put (cs := #[.int .i64 1, .int .i64 1, .int .i64 1, .int .i64 0, .int .i64 0, .int .i64 0, .int .i64 0, .int .i64 0, .int .i64 0, .int .i64 0, .int .i64 0, .int .i64 0, .int .i64 0]) ?_ 3 _ rfl; (with_reducible repeat (first | refine blk_drewN ?_ _ | refine blk_drew ?_ | refine blk_alloc ?_ _)); refine blk_put (cs := #[.int .i64 1, .int .i64 1, .int .i64 0, .int .i64 0, .int .i64 0, .int .i64 0, .int .i64 0, .int .i64 0, .int .i64 0, .int .i64 0, .int .i64 0, .int .i64 0, .int .i64 0]) ?_ 2 _ rfl; (with_reducible repeat (first | refine blk_drewN ?_ _ | refine blk_drew ?_ | refine blk_alloc ?_ _)); refine blk_put (cs := #[.int .i64 1, .int .i64 0, .int .i64 0, .int .i64 0, .int .i64 0, .int .i64 0, .int .i64 0, .int .i64 0, .int .i64 0, .int .i64 0, .int .i64 0, .int .i64 0, .int .i64 0]) ?_ 1 _ rfl; (with_reducible repeat (first | refine blk_drewN ?_ _ | refine blk_drew ?_ | refine blk_alloc ?_ _)); refine blk_put (cs := #[.int .i64 0, .int .i64 0, .int .i64 0, .int .i64 0, .int .i64 0, .int .i64 0, .int .i64 0, .int .i64 0, .int .i64 0, .int .i64 0, .int .i64 0, .int .i64 0, .int .i64 0]) ?_ 0 _ rfl; (with_reducible repeat (first | refine blk_drewN ?_ _ | refine blk_drew ?_ | refine blk_alloc ?_ _)); exact BK101.out) hb); have n2_ := Aside0.mk (below_step (by repeat (first | (with_reducible first | exact HB.out | apply below_alloc | apply pw_below_drewN | apply below_drew1 | refine below_set ?_ GE101.out) | exact HB.out)) hb); clear BK101; clear HB; have HO104 := n0_; have BK101 := n1_; have HB := n2_; clear n0_ n1_ n2_; clear hb ho42; obtain ⟨Ao43, co43, eo43⟩ := Kd.R_slice HO104.out; subst eo43))
   have n0_ := Aside0.mk (Kd.R_drew HO104.out)
   have n1_ := Aside0.mk (blk_drew BK101.out)
   have n2_ := Aside0.mk (below_drew1 HB.out)
   clear HO104
   clear BK101
   clear HB
   have HO104 := n0_
   have BK101 := n1_
   have HB := n2_
   clear n0_ n1_ n2_
   refine start_ (n := 11) (S := fun w' => w'.cell? ⟨gb101, 0, none⟩ = some (.int .i64 1) ∧ w'.cell? ⟨gb101, 1, none⟩ = some (.int .i64 1) ∧ w'.cell? ⟨gb101, 2, none⟩ = some (.int .i64 1) ∧ w'.cell? ⟨gb101, 3, none⟩ = some (.int .i64 1) ∧ w'.cell? ⟨gb101, 4, none⟩ = some (.int .i64 1) ∧ w'.cell? ⟨gb101, 5, none⟩ = some (.int .i64 0) ∧ w'.cell? ⟨gb101, 6, none⟩ = some (.int .i64 0) ∧ w'.cell? ⟨gb101, 7, none⟩ = some (.int .i64 1) ∧ w'.cell? ⟨gb101, 8, none⟩ = some (.int .i64 1) ∧ w'.cell? ⟨gb101, 9, none⟩ = some (.int .i64 1) ∧ w'.cell? ⟨gb101, 10, none⟩ = some (.int .i64 1) ∧ w'.cell? ⟨gb101, 11, none⟩ = some (.int .i64 0) ∧ w'.cell? ⟨gb101, 12, none⟩ = some (.int .i64 0)) (ds := []) #[ff,ff,ff,ff,ff,ff,ff,ff,ff,ff,ff] (by kernel_rfl) rfl rfl ⟨(blk_cell BK101.out 0).trans rfl, (blk_cell BK101.out 1).trans rfl, (blk_cell BK101.out 2).trans rfl, (blk_cell BK101.out 3).trans rfl, (blk_cell BK101.out 4).trans rfl, (blk_cell BK101.out 5).trans rfl, (blk_cell BK101.out 6).trans rfl, (blk_cell BK101.out 7).trans rfl, (blk_cell BK101.out 8).trans rfl, (blk_cell BK101.out 9).trans rfl, (blk_cell BK101.out 10).trans rfl, (blk_cell BK101.out 11).trans rfl, (blk_cell BK101.out 12).trans rfl⟩ (fun hHeld => ?_); refine with_tabW knelllaw25_speaks.tab3 knelllaw25_speaks.bits3 (fun HT_ HW_ => ?_)
   generalize w41.drew = w44 at HO104 BK101 HB hHeld ⊢
   refine pure_ (i := 0) (N := some 12) (v := ?_) (a' := ?_) #[tt,ff,ff,ff,ff,ff,ff,ff,ff,ff,ff] rfl rfl (any_of HT_.out (by kernel_rfl)) (fun _ _ _ h => h) (Or.inl ⟨by rfl, ?_⟩) ?_ ?_
   rotate_left
   ·intro w'
    go_simp
    with_reducible rfl
   rotate_left
   ·simp only [Act.put, sQ0, sQ1, sQ2, i64_w]
    rfl
   refine pure_ (i := 3) (N := some 15) (v := ?_) (a' := ?_) #[tt,ff,ff,tt,ff,ff,ff,ff,ff,ff,ff] rfl rfl (any_of HT_.out (by kernel_rfl)) (fun _ _ _ h => h) (Or.inl ⟨by rfl, ?_⟩) ?_ ?_
   rotate_left
   ·intro w'
    go_simp
    with_reducible rfl
   rotate_left
   ·simp only [Act.put, sQ0, sQ1, sQ2, i64_w]
    rfl
   refine pure_ (i := 4) (N := some 16) (v := ?_) (a' := ?_) #[tt,ff,ff,tt,tt,ff,ff,ff,ff,ff,ff] rfl rfl (any_of HT_.out (by kernel_rfl)) (fun _ _ _ h => h) (Or.inl ⟨by rfl, ?_⟩) ?_ ?_
   rotate_left
   ·intro w'
    go_simp
    with_reducible rfl
   rotate_left
   ·simp only [Act.put, sQ0, sQ1, sQ2, i64_w]
    rfl
   refine take_ (i := 1) (N := some 13) (v := ?_) (a' := ?_) #[tt,tt,ff,tt,tt,ff,ff,ff,ff,ff,ff] rfl rfl (take_ofW HT_.out HW_.out (by kernel_rfl)) (fun _ _ _ h => h) (Or.inl ⟨by rfl, ?_⟩) hHeld ?_ ?_
   rotate_left
   ·rintro w' ⟨s0, s1, s2, s3, s4, s5, s6, s7, s8, s9, s10, s11, s12⟩
    go_simp
    with_reducible rfl
   rotate_left
   ·simp only [Act.put, sQ0, sQ1, sQ2, i64_w]
    rfl
   refine take_ (i := 7) (N := some 19) (v := ?_) (a' := ?_) #[tt,tt,ff,tt,tt,ff,ff,tt,ff,ff,ff] rfl rfl (take_ofW HT_.out HW_.out (by kernel_rfl)) (fun _ _ _ h => h) (Or.inl ⟨by rfl, ?_⟩) hHeld ?_ ?_
   rotate_left
   ·rintro w' ⟨s0, s1, s2, s3, s4, s5, s6, s7, s8, s9, s10, s11, s12⟩
    go_simp
    with_reducible rfl
   rotate_left
   ·simp only [Act.put, sQ0, sQ1, sQ2, i64_w]
    rfl
   refine join_ (σ := Value × Value) 4 #[tt,tt,tt,tt,tt,tt,ff,tt,ff,ff,ff] (fun s_ => [(14, s_.1), (17, s_.2)]) (fun s_ w' => (w'.cell? ⟨gb101, 0, none⟩ = some (.int .i64 1) ∧ w'.cell? ⟨gb101, 1, none⟩ = some (.int .i64 1) ∧ w'.cell? ⟨gb101, 2, none⟩ = some (.int .i64 1) ∧ w'.cell? ⟨gb101, 3, none⟩ = some (.int .i64 1) ∧ w'.cell? ⟨gb101, 4, none⟩ = some (.int .i64 1) ∧ w'.cell? ⟨gb101, 5, none⟩ = some (.int .i64 0) ∧ w'.cell? ⟨gb101, 6, none⟩ = some (.int .i64 0) ∧ w'.cell? ⟨gb101, 7, none⟩ = some (.int .i64 1) ∧ w'.cell? ⟨gb101, 8, none⟩ = some (.int .i64 1) ∧ w'.cell? ⟨gb101, 9, none⟩ = some (.int .i64 1) ∧ w'.cell? ⟨gb101, 10, none⟩ = some (.int .i64 1) ∧ w'.cell? ⟨gb101, 11, none⟩ = some (.int .i64 0) ∧ w'.cell? ⟨gb101, 12, none⟩ = some (.int .i64 0)) ∧ (Kd.R k60 60 w' w.heap.size (fun k_ => some k_ ≠ (s_.2 : Value).ownBlock) (.slice Ao43 y102.length co43) y102) ∧ (Kd.R (Kd.int .i64) 3 w' w.heap.size (fun _ => True) s_.1 t105) ∧ (Kd.R k60 60 w' w.heap.size (fun k_ => some k_ ≠ (.slice Ao43 y102.length co43 : Value).ownBlock) s_.2 y108) ∧ (w'.heap[gb101]? = some (.cells #[.int .i64 1, .int .i64 1, .int .i64 1, .int .i64 1, .int .i64 1, .int .i64 0, .int .i64 0, .int .i64 1, .int .i64 1, .int .i64 1, .int .i64 1, .int .i64 0, .int .i64 0] 36 (0, 0))) ∧ (Below w.heap.size w w')) ?_ ?_
   rotate_left
   ·intro hCont
    refine two_ (i := 2) (j := 5) (Ni := some 14) (Nj := some 17) #[tt,tt,tt,tt,tt,ff,ff,tt,ff,ff,ff] #[tt,tt,ff,tt,tt,tt,ff,tt,ff,ff,ff] rfl rfl rfl rfl (two_of HT_.out (by kernel_rfl)) (by decide) (by decide) (fun K hK => ?_) (fun K hK => ?_)
    ·skip
     refine goes_ Try.func48 (by kernel_rfl) rfl #[.slice Ao43 y102.length co43, .agg #[.int .i64 1, .int .i64 1, .int .i64 1, .int .i64 1, .int .i64 1, .int .i64 0, .int .i64 0, .int .i64 1, .int .i64 1, .int .i64 1, .int .i64 1, .int .i64 0, .int .i64 0]] (by rfl) rfl rfl (by (try simp only [List.map_toArray, List.map_cons, List.map_nil]); first | done | rfl | (simp only [List.length_drop, List.length_take]; rfl)) ?_
     with_reducible refine (verdict_Late.calls _ _ y102 1 1 1 1 1 0 0 1 1 1 1 0 0 t105 _ ?side1 ?side2 A1.out).mono ?_
     (case side1 => repeat (first | exact (Kd.R_reads' HO104.out).2.2 | (with_reducible refine Kd.C_alloc ?_ _) | (with_reducible refine Kd.C_drewN ?_ _) | (with_reducible refine Kd.C_drew ?_)))
     (case side2 => exact (Kd.R_reads' HO104.out).2.1)
     rintro e w45 ⟨v106, rfl, ho0, hb⟩
     refine ⟨_, rfl, ?_⟩
     have n0_ := Aside0.mk (Kd.R_below (by (with_reducible repeat (first | apply Kd.R_alloc | apply Kd.R_drewN | apply Kd.R_drew)); exact HO104.out) hb)
     have n1_ := Aside0.mk (Kd.R_lower ho0 (below_size (by repeat (first | (with_reducible first | exact HB.out | apply below_alloc | apply pw_below_drewN | apply below_drew1 | refine below_set ?_ GE101.out) | exact HB.out))))
     have n2_ := Aside0.mk (blk_below (g := gb101) (o := .cells #[.int .i64 1, .int .i64 1, .int .i64 1, .int .i64 1, .int .i64 1, .int .i64 0, .int .i64 0, .int .i64 1, .int .i64 1, .int .i64 1, .int .i64 1, .int .i64 0, .int .i64 0] 36 (0, 0)) (by (with_reducible repeat (first | refine blk_drewN ?_ _ | refine blk_drew ?_ | refine blk_alloc ?_ _)); exact BK101.out) hb)
     have n3_ := Aside0.mk (below_step (by repeat (first | (with_reducible first | exact HB.out | apply below_alloc | apply pw_below_drewN | apply below_drew1 | refine below_set ?_ GE101.out) | exact HB.out)) hb)
     clear HO104
     clear BK101
     clear HB
     have HO104 := n0_
     have HO107 := n1_
     have BK101 := n2_
     have HB := n3_
     clear n0_ n1_ n2_ n3_
     (try clear hb)
     (try clear hb2)
     (try clear hk)
     (try clear hi)
     (try clear ho0)
     refine hK.out _ _ ⟨(blk_cell BK101.out 0).trans rfl, (blk_cell BK101.out 1).trans rfl, (blk_cell BK101.out 2).trans rfl, (blk_cell BK101.out 3).trans rfl, (blk_cell BK101.out 4).trans rfl, (blk_cell BK101.out 5).trans rfl, (blk_cell BK101.out 6).trans rfl, (blk_cell BK101.out 7).trans rfl, (blk_cell BK101.out 8).trans rfl, (blk_cell BK101.out 9).trans rfl, (blk_cell BK101.out 10).trans rfl, (blk_cell BK101.out 11).trans rfl, (blk_cell BK101.out 12).trans rfl⟩ (fun hHeld => ?_)
     clear hK K
     refine norm_ (a' := ?_) ?_ ?_
     rotate_left
     ·show Act.put _ (some 14) _ = _
      simp only [Act.put, sQ0, sQ1, sQ2, i64_w]
      rfl
     refine one_ (i := 5) (N := some 17) #[tt,tt,tt,tt,tt,tt,ff,tt,ff,ff,ff] rfl rfl (one_of HT_.out (by kernel_rfl)) (by decide) (fun K hK => ?_)
     refine Kd.R_lit_step k60 _ 60 ?hg (N := 17) ?hd (xs := ([(⟨5, 0, 6, 0, 0, 0, 0⟩ : S60)] : List (S60))) (inner := [.int .i64 5, .int .i64 0, .int .i64 6, .int .i64 0, .int .i64 0, .int .i64 0, .int .i64 0]) (ok := fun _ => True) (okp := fun _ => True) ?hr ?hp (fun _ hk => hk) trivial (Below.refl _ _) (Nat.le_refl _) (by simp) ?_; (case hd => rfl); (case hg => rfl); (case hr => first | (go_simp; done) | (go_simp; rfl)); (case hp => exact (Reps.c7 (show Kd.M k60 _ _ _ (⟨5, 0, 6, 0, 0, 0, 0⟩ : S60) [.int .i64 5, .int .i64 0, .int .i64 6, .int .i64 0, .int .i64 0, .int .i64 0, .int .i64 0] from (k60_mkM _ _ _ (⟨5, 0, 6, 0, 0, 0, 0⟩ : S60) )) (Reps.none _ _)))
     intro v109 w46 ho47 hb hg_ hnew_
     clear hg_ hnew_
     (first | rw [← Ny108.out] at ho47 | (simp only [Int.reduceToNat] at ho47; rw [← Ny108.out] at ho47))
     have n0_ := Aside0.mk (Kd.R_elder' (by (with_reducible repeat (first | apply Kd.R_alloc | apply Kd.R_drewN | apply Kd.R_drew)); exact HO104.out) (Kd.R_base ho47) hb)
     have n1_ := Aside0.mk (Kd.R_below (by (with_reducible repeat (first | apply Kd.R_alloc | apply Kd.R_drewN | apply Kd.R_drew)); exact HO107.out) hb)
     have n2_ := Aside0.mk (Kd.R_lower (Kd.R_new' ho47 (Kd.R_lt (by (with_reducible repeat (first | apply Kd.R_alloc | apply Kd.R_drewN | apply Kd.R_drew)); exact HO104.out))) (below_size (by repeat (first | (with_reducible first | exact HB.out | apply below_alloc | apply pw_below_drewN | apply below_drew1 | refine below_set ?_ GE101.out) | exact HB.out))))
     have n3_ := Aside0.mk (blk_below (g := gb101) (o := .cells #[.int .i64 1, .int .i64 1, .int .i64 1, .int .i64 1, .int .i64 1, .int .i64 0, .int .i64 0, .int .i64 1, .int .i64 1, .int .i64 1, .int .i64 1, .int .i64 0, .int .i64 0] 36 (0, 0)) (by (with_reducible repeat (first | refine blk_drewN ?_ _ | refine blk_drew ?_ | refine blk_alloc ?_ _)); exact BK101.out) hb)
     have n4_ := Aside0.mk (below_step (by repeat (first | (with_reducible first | exact HB.out | apply below_alloc | apply pw_below_drewN | apply below_drew1 | refine below_set ?_ GE101.out) | exact HB.out)) hb)
     clear HO104
     clear HO107
     clear BK101
     clear HB
     have HO104 := n0_
     have HO107 := n1_
     have HO110 := n2_
     have BK101 := n3_
     have HB := n4_
     clear n0_ n1_ n2_ n3_ n4_
     clear hb ho47
     refine hK.out _ _ ⟨(blk_cell BK101.out 0).trans rfl, (blk_cell BK101.out 1).trans rfl, (blk_cell BK101.out 2).trans rfl, (blk_cell BK101.out 3).trans rfl, (blk_cell BK101.out 4).trans rfl, (blk_cell BK101.out 5).trans rfl, (blk_cell BK101.out 6).trans rfl, (blk_cell BK101.out 7).trans rfl, (blk_cell BK101.out 8).trans rfl, (blk_cell BK101.out 9).trans rfl, (blk_cell BK101.out 10).trans rfl, (blk_cell BK101.out 11).trans rfl, (blk_cell BK101.out 12).trans rfl⟩ (fun hHeld => ?_)
     clear hK K
     refine norm_ (a' := ?_) ?_ ?_
     rotate_left
     ·show Act.put _ (some 17) _ = _
      simp only [Act.put, sQ0, sQ1, sQ2, i64_w]
      rfl
     exact norm_ (by simp only [putAll, Act.put, sQ0, sQ1, sQ2]) (hCont (v106, v109) _ ⟨hHeld, (by (with_reducible repeat (first | apply Kd.R_alloc | apply Kd.R_drewN | apply Kd.R_drew)); exact Kd.R_mono HO104.out (fun _ hk => hk.2)), (by (with_reducible repeat (first | apply Kd.R_alloc | apply Kd.R_drewN | apply Kd.R_drew)); exact HO107.out), (by (with_reducible repeat (first | apply Kd.R_alloc | apply Kd.R_drewN | apply Kd.R_drew)); exact Kd.R_mono HO110.out (fun _ hk => hk.2)), (by (with_reducible repeat (first | refine blk_drewN ?_ _ | refine blk_drew ?_ | refine blk_alloc ?_ _)); exact BK101.out), (by repeat (first | (with_reducible first | exact HB.out | apply below_alloc | apply pw_below_drewN | apply below_drew1 | refine below_set ?_ GE101.out) | exact HB.out))⟩)
    ·skip
     refine Kd.R_lit_step k60 _ 60 ?hg (N := 17) ?hd (xs := ([(⟨5, 0, 6, 0, 0, 0, 0⟩ : S60)] : List (S60))) (inner := [.int .i64 5, .int .i64 0, .int .i64 6, .int .i64 0, .int .i64 0, .int .i64 0, .int .i64 0]) (ok := fun _ => True) (okp := fun _ => True) ?hr ?hp (fun _ hk => hk) trivial (Below.refl _ _) (Nat.le_refl _) (by simp) ?_; (case hd => rfl); (case hg => rfl); (case hr => first | (go_simp; done) | (go_simp; rfl)); (case hp => exact (Reps.c7 (show Kd.M k60 _ _ _ (⟨5, 0, 6, 0, 0, 0, 0⟩ : S60) [.int .i64 5, .int .i64 0, .int .i64 6, .int .i64 0, .int .i64 0, .int .i64 0, .int .i64 0] from (k60_mkM _ _ _ (⟨5, 0, 6, 0, 0, 0, 0⟩ : S60) )) (Reps.none _ _)))
     intro v109 w45 ho46 hb hg_ hnew_
     clear hg_ hnew_
     (first | rw [← Ny108.out] at ho46 | (simp only [Int.reduceToNat] at ho46; rw [← Ny108.out] at ho46))
     have n0_ := Aside0.mk (Kd.R_elder' (by (with_reducible repeat (first | apply Kd.R_alloc | apply Kd.R_drewN | apply Kd.R_drew)); exact HO104.out) (Kd.R_base ho46) hb)
     have n1_ := Aside0.mk (Kd.R_lower (Kd.R_new' ho46 (Kd.R_lt (by (with_reducible repeat (first | apply Kd.R_alloc | apply Kd.R_drewN | apply Kd.R_drew)); exact HO104.out))) (below_size (by repeat (first | (with_reducible first | exact HB.out | apply below_alloc | apply pw_below_drewN | apply below_drew1 | refine below_set ?_ GE101.out) | exact HB.out))))
     have n2_ := Aside0.mk (blk_below (g := gb101) (o := .cells #[.int .i64 1, .int .i64 1, .int .i64 1, .int .i64 1, .int .i64 1, .int .i64 0, .int .i64 0, .int .i64 1, .int .i64 1, .int .i64 1, .int .i64 1, .int .i64 0, .int .i64 0] 36 (0, 0)) (by (with_reducible repeat (first | refine blk_drewN ?_ _ | refine blk_drew ?_ | refine blk_alloc ?_ _)); exact BK101.out) hb)
     have n3_ := Aside0.mk (below_step (by repeat (first | (with_reducible first | exact HB.out | apply below_alloc | apply pw_below_drewN | apply below_drew1 | refine below_set ?_ GE101.out) | exact HB.out)) hb)
     clear HO104
     clear BK101
     clear HB
     have HO104 := n0_
     have HO110 := n1_
     have BK101 := n2_
     have HB := n3_
     clear n0_ n1_ n2_ n3_
     clear hb ho46
     refine hK.out _ _ ⟨(blk_cell BK101.out 0).trans rfl, (blk_cell BK101.out 1).trans rfl, (blk_cell BK101.out 2).trans rfl, (blk_cell BK101.out 3).trans rfl, (blk_cell BK101.out 4).trans rfl, (blk_cell BK101.out 5).trans rfl, (blk_cell BK101.out 6).trans rfl, (blk_cell BK101.out 7).trans rfl, (blk_cell BK101.out 8).trans rfl, (blk_cell BK101.out 9).trans rfl, (blk_cell BK101.out 10).trans rfl, (blk_cell BK101.out 11).trans rfl, (blk_cell BK101.out 12).trans rfl⟩ (fun hHeld => ?_)
     clear hK K
     refine norm_ (a' := ?_) ?_ ?_
     rotate_left
     ·show Act.put _ (some 17) _ = _
      simp only [Act.put, sQ0, sQ1, sQ2, i64_w]
      rfl
     refine one_ (i := 2) (N := some 14) #[tt,tt,tt,tt,tt,tt,ff,tt,ff,ff,ff] rfl rfl (one_of HT_.out (by kernel_rfl)) (by decide) (fun K hK => ?_)
     refine goes_ Try.func48 (by kernel_rfl) rfl #[.slice Ao43 y102.length co43, .agg #[.int .i64 1, .int .i64 1, .int .i64 1, .int .i64 1, .int .i64 1, .int .i64 0, .int .i64 0, .int .i64 1, .int .i64 1, .int .i64 1, .int .i64 1, .int .i64 0, .int .i64 0]] (by rfl) rfl rfl (by (try simp only [List.map_toArray, List.map_cons, List.map_nil]); first | done | rfl | (simp only [List.length_drop, List.length_take]; rfl)) ?_
     with_reducible refine (verdict_Late.calls _ _ y102 1 1 1 1 1 0 0 1 1 1 1 0 0 t105 _ ?side1 ?side2 A1.out).mono ?_
     (case side1 => repeat (first | exact (Kd.R_reads' HO104.out).2.2 | (with_reducible refine Kd.C_alloc ?_ _) | (with_reducible refine Kd.C_drewN ?_ _) | (with_reducible refine Kd.C_drew ?_)))
     (case side2 => exact (Kd.R_reads' HO104.out).2.1)
     rintro e w47 ⟨v106, rfl, ho0, hb⟩
     refine ⟨_, rfl, ?_⟩
     have n0_ := Aside0.mk (Kd.R_below (by (with_reducible repeat (first | apply Kd.R_alloc | apply Kd.R_drewN | apply Kd.R_drew)); exact HO104.out) hb)
     have n1_ := Aside0.mk (Kd.R_below (by (with_reducible repeat (first | apply Kd.R_alloc | apply Kd.R_drewN | apply Kd.R_drew)); exact HO110.out) hb)
     have n2_ := Aside0.mk (Kd.R_lower ho0 (below_size (by repeat (first | (with_reducible first | exact HB.out | apply below_alloc | apply pw_below_drewN | apply below_drew1 | refine below_set ?_ GE101.out) | exact HB.out))))
     have n3_ := Aside0.mk (blk_below (g := gb101) (o := .cells #[.int .i64 1, .int .i64 1, .int .i64 1, .int .i64 1, .int .i64 1, .int .i64 0, .int .i64 0, .int .i64 1, .int .i64 1, .int .i64 1, .int .i64 1, .int .i64 0, .int .i64 0] 36 (0, 0)) (by (with_reducible repeat (first | refine blk_drewN ?_ _ | refine blk_drew ?_ | refine blk_alloc ?_ _)); exact BK101.out) hb)
     have n4_ := Aside0.mk (below_step (by repeat (first | (with_reducible first | exact HB.out | apply below_alloc | apply pw_below_drewN | apply below_drew1 | refine below_set ?_ GE101.out) | exact HB.out)) hb)
     clear HO104
     clear HO110
     clear BK101
     clear HB
     have HO104 := n0_
     have HO110 := n1_
     have HO107 := n2_
     have BK101 := n3_
     have HB := n4_
     clear n0_ n1_ n2_ n3_ n4_
     (try clear hb)
     (try clear hb2)
     (try clear hk)
     (try clear hi)
     (try clear ho0)
     refine hK.out _ _ ⟨(blk_cell BK101.out 0).trans rfl, (blk_cell BK101.out 1).trans rfl, (blk_cell BK101.out 2).trans rfl, (blk_cell BK101.out 3).trans rfl, (blk_cell BK101.out 4).trans rfl, (blk_cell BK101.out 5).trans rfl, (blk_cell BK101.out 6).trans rfl, (blk_cell BK101.out 7).trans rfl, (blk_cell BK101.out 8).trans rfl, (blk_cell BK101.out 9).trans rfl, (blk_cell BK101.out 10).trans rfl, (blk_cell BK101.out 11).trans rfl, (blk_cell BK101.out 12).trans rfl⟩ (fun hHeld => ?_)
     clear hK K
     refine norm_ (a' := ?_) ?_ ?_
     rotate_left
     ·show Act.put _ (some 14) _ = _
      simp only [Act.put, sQ0, sQ1, sQ2, i64_w]
      rfl
     exact norm_ (by simp only [putAll, Act.put, sQ0, sQ1, sQ2]) (hCont (v106, v109) _ ⟨hHeld, (by (with_reducible repeat (first | apply Kd.R_alloc | apply Kd.R_drewN | apply Kd.R_drew)); exact Kd.R_mono HO104.out (fun _ hk => hk.2)), (by (with_reducible repeat (first | apply Kd.R_alloc | apply Kd.R_drewN | apply Kd.R_drew)); exact HO107.out), (by (with_reducible repeat (first | apply Kd.R_alloc | apply Kd.R_drewN | apply Kd.R_drew)); exact Kd.R_mono HO110.out (fun _ hk => hk.2)), (by (with_reducible repeat (first | refine blk_drewN ?_ _ | refine blk_drew ?_ | refine blk_alloc ?_ _)); exact BK101.out), (by repeat (first | (with_reducible first | exact HB.out | apply below_alloc | apply pw_below_drewN | apply below_drew1 | refine below_set ?_ GE101.out) | exact HB.out))⟩)
   rintro ⟨v106, v109⟩ w48 ⟨hS_, h0_, h1_, h2_, h3_, h4_⟩
   have n0_ : Aside0 (Kd.R k60 60 w48 w.heap.size (fun k_ => some k_ ≠ (v109 : Value).ownBlock) (.slice Ao43 y102.length co43) y102) := ⟨h0_⟩
   have n1_ : Aside0 (Kd.R (Kd.int .i64) 3 w48 w.heap.size (fun _ => True) v106 t105) := ⟨h1_⟩
   have n2_ : Aside0 (Kd.R k60 60 w48 w.heap.size (fun k_ => some k_ ≠ (.slice Ao43 y102.length co43 : Value).ownBlock) v109 y108) := ⟨h2_⟩
   have n3_ : Aside0 (w48.heap[gb101]? = some (.cells #[.int .i64 1, .int .i64 1, .int .i64 1, .int .i64 1, .int .i64 1, .int .i64 0, .int .i64 0, .int .i64 1, .int .i64 1, .int .i64 1, .int .i64 1, .int .i64 0, .int .i64 0] 36 (0, 0))) := ⟨h3_⟩
   have n4_ : Aside0 (Below w.heap.size w w48) := ⟨h4_⟩
   clear HO104
   clear BK101
   clear HB
   clear h0_ h1_ h2_ h3_ h4_
   have HO104 := n0_
   have HO107 := n1_
   have HO110 := n2_
   have BK101 := n3_
   have HB := n4_
   clear n0_ n1_ n2_ n3_ n4_
   have hHeld : w48.cell? ⟨gb101, 0, none⟩ = some (.int .i64 1) ∧ w48.cell? ⟨gb101, 1, none⟩ = some (.int .i64 1) ∧ w48.cell? ⟨gb101, 2, none⟩ = some (.int .i64 1) ∧ w48.cell? ⟨gb101, 3, none⟩ = some (.int .i64 1) ∧ w48.cell? ⟨gb101, 4, none⟩ = some (.int .i64 1) ∧ w48.cell? ⟨gb101, 5, none⟩ = some (.int .i64 0) ∧ w48.cell? ⟨gb101, 6, none⟩ = some (.int .i64 0) ∧ w48.cell? ⟨gb101, 7, none⟩ = some (.int .i64 1) ∧ w48.cell? ⟨gb101, 8, none⟩ = some (.int .i64 1) ∧ w48.cell? ⟨gb101, 9, none⟩ = some (.int .i64 1) ∧ w48.cell? ⟨gb101, 10, none⟩ = some (.int .i64 1) ∧ w48.cell? ⟨gb101, 11, none⟩ = some (.int .i64 0) ∧ w48.cell? ⟨gb101, 12, none⟩ = some (.int .i64 0) := hS_
   obtain ⟨Ao50, co50, eo50⟩ := Kd.R_slice HO110.out
   (first | subst eo50 | (injection eo50 with f1_ f2_ f3_; have f4_ := f1_.symm; have f5_ := f3_.symm; clear f1_ f2_ f3_; subst f4_; subst f5_))
   refine norm_ (a' := ?_) ?_ ?_
   rotate_left
   ·simp only [putAll, Act.put, sQ0, sQ1, sQ2]
    rfl
   refine one_ (i := 6) (N := some 18) #[tt,tt,tt,tt,tt,tt,tt,tt,ff,ff,ff] rfl rfl (one_of HT_.out (by kernel_rfl)) (by decide) (fun K hK => ?_)
   refine Kd.R_append_rows_step k60 (w0 := w) w.heap.size (by rfl) (.tmp 15) (.tmp 17) 73 60 (.agg #[(.int .i64 0), (.int .i64 0), (.int .i64 0), (.int .i64 0), (.int .i64 0), (.int .i64 0), (.int .i64 0)]) 56 rfl Try.underlying73 info60 rfl (by decide) (by omega) (.slice Ao43 y102.length co43) y102 y108 _ _ _ (fun k_ => some k_ ≠ (.slice Ao50 y108.length co50 : Value).ownBlock) (fun _ => False) rfl rfl ?aO ?aR (fun _ _ h => h) (fun _ h => h.elim) ?aF ?aB ?aS ?aL ?_
   (case aR => repeat (first | exact (Kd.R_reads' HO110.out).2.2 | (with_reducible refine Kd.C_alloc ?_ _) | (with_reducible refine Kd.C_drewN ?_ _) | (with_reducible refine Kd.C_drew ?_)))
   (case aB => exact (by repeat (first | (with_reducible first | exact HB.out | apply below_alloc | apply pw_below_drewN | apply below_drew1 | refine below_set ?_ GE101.out) | exact HB.out)))
   (case aF => exact (fun k_ hk => Kd.fresh' (Kd.R_lt (by (with_reducible repeat (first | apply Kd.R_alloc | apply Kd.R_drewN | apply Kd.R_drew)); exact HO110.out)) k_ hk))
   (case aO => exact (by (with_reducible repeat (first | apply Kd.R_alloc | apply Kd.R_drewN | apply Kd.R_drew)); exact HO104.out))
   (case aS => exact (below_size (by repeat (first | (with_reducible first | exact HB.out | apply below_alloc | apply pw_below_drewN | apply below_drew1 | refine below_set ?_ GE101.out) | exact HB.out))))
   (case aL => have := LMc2.out; omega)
   intro v112 w49 ho hb hg hat
   rw [← Ny111.out] at ho
   have n0_ := Aside0.mk (blk_grown (g := gb101) (o := .cells #[.int .i64 1, .int .i64 1, .int .i64 1, .int .i64 1, .int .i64 1, .int .i64 0, .int .i64 0, .int .i64 1, .int .i64 1, .int .i64 1, .int .i64 1, .int .i64 0, .int .i64 0] 36 (0, 0)) (by (with_reducible repeat (first | refine blk_drewN ?_ _ | refine blk_drew ?_ | refine blk_alloc ?_ _)); exact BK101.out) hg (Kd.R_ne HO104.out BK101.out (by decide)))
   have n1_ := Aside0.mk (Kd.R_over' (by (with_reducible repeat (first | apply Kd.R_alloc | apply Kd.R_drewN | apply Kd.R_drew)); exact HO107.out) (Kd.R_typed (by (with_reducible repeat (first | apply Kd.R_alloc | apply Kd.R_drewN | apply Kd.R_drew)); exact HO104.out)) (by decide) hg)
   have n2_ := Aside0.mk (Kd.R_after (ok := (fun _ => True)) (by (with_reducible repeat (first | apply Kd.R_alloc | apply Kd.R_drewN | apply Kd.R_drew)); exact Kd.R_mono HO110.out (fun _ hk => ⟨trivial, hk⟩)) hg hat)
   have n3_ := Aside0.mk (hb)
   have n4_ := Aside0.mk (ho)
   clear BK101
   clear HO107
   clear HO110
   clear HB
   clear HO104
   have BK101 := n0_
   have HO107 := n1_
   have HO110 := n2_
   have HB := n3_
   have HO113 := n4_
   clear n0_ n1_ n2_ n3_ n4_
   clear ho hb hg hat
   obtain ⟨Ao51, co51, eo51⟩ := Kd.R_slice HO113.out
   (first | subst eo51 | (injection eo51 with f1_ f2_ f3_; have f4_ := f1_.symm; have f5_ := f3_.symm; clear f1_ f2_ f3_; subst f4_; subst f5_))
   refine hK.out _ _ ⟨(blk_cell BK101.out 0).trans rfl, (blk_cell BK101.out 1).trans rfl, (blk_cell BK101.out 2).trans rfl, (blk_cell BK101.out 3).trans rfl, (blk_cell BK101.out 4).trans rfl, (blk_cell BK101.out 5).trans rfl, (blk_cell BK101.out 6).trans rfl, (blk_cell BK101.out 7).trans rfl, (blk_cell BK101.out 8).trans rfl, (blk_cell BK101.out 9).trans rfl, (blk_cell BK101.out 10).trans rfl, (blk_cell BK101.out 11).trans rfl, (blk_cell BK101.out 12).trans rfl⟩ (fun hHeld => ?_)
   clear hK K
   refine norm_ (a' := ?_) ?_ ?_
   rotate_left
   ·show Act.put _ (some 18) _ = _
    simp only [Act.put, sQ0, sQ1, sQ2, i64_w]
    rfl
   refine one_ (i := 8) (N := some 20) #[tt,tt,tt,tt,tt,tt,tt,tt,tt,ff,ff] rfl rfl (one_of HT_.out (by kernel_rfl)) (by decide) (fun K hK => ?_)
   refine goes_ Try.func48 (by kernel_rfl) rfl #[.slice Ao51 y111.length co51, .agg #[.int .i64 1, .int .i64 1, .int .i64 1, .int .i64 1, .int .i64 1, .int .i64 0, .int .i64 0, .int .i64 1, .int .i64 1, .int .i64 1, .int .i64 1, .int .i64 0, .int .i64 0]] (by rfl) rfl rfl (by (try simp only [List.map_toArray, List.map_cons, List.map_nil]); first | done | rfl | (simp only [List.length_drop, List.length_take]; rfl)) ?_
   with_reducible refine (verdict_Late.calls _ _ y111 1 1 1 1 1 0 0 1 1 1 1 0 0 t114 _ ?side1 ?side2 A3.out).mono ?_
   (case side1 => repeat (first | exact (Kd.R_reads' HO113.out).2.2 | (with_reducible refine Kd.C_alloc ?_ _) | (with_reducible refine Kd.C_drewN ?_ _) | (with_reducible refine Kd.C_drew ?_)))
   (case side2 => exact (Kd.R_reads' HO113.out).2.1)
   rintro e w52 ⟨v115, rfl, ho0, hb⟩
   refine ⟨_, rfl, ?_⟩
   have n0_ := Aside0.mk (Kd.R_elder' (by (with_reducible repeat (first | apply Kd.R_alloc | apply Kd.R_drewN | apply Kd.R_drew)); exact HO107.out) (Kd.R_base ho0) hb)
   have n1_ := Aside0.mk (Kd.R_below (by (with_reducible repeat (first | apply Kd.R_alloc | apply Kd.R_drewN | apply Kd.R_drew)); exact HO110.out) hb)
   have n2_ := Aside0.mk (Kd.R_below (by (with_reducible repeat (first | apply Kd.R_alloc | apply Kd.R_drewN | apply Kd.R_drew)); exact HO113.out) hb)
   have n3_ := Aside0.mk (Kd.R_lower (Kd.R_new' ho0 (Kd.R_lt (by (with_reducible repeat (first | apply Kd.R_alloc | apply Kd.R_drewN | apply Kd.R_drew)); exact HO107.out))) (below_size (by repeat (first | (with_reducible first | exact HB.out | apply below_alloc | apply pw_below_drewN | apply below_drew1 | refine below_set ?_ GE101.out) | exact HB.out))))
   have n4_ := Aside0.mk (blk_below (g := gb101) (o := .cells #[.int .i64 1, .int .i64 1, .int .i64 1, .int .i64 1, .int .i64 1, .int .i64 0, .int .i64 0, .int .i64 1, .int .i64 1, .int .i64 1, .int .i64 1, .int .i64 0, .int .i64 0] 36 (0, 0)) (by (with_reducible repeat (first | refine blk_drewN ?_ _ | refine blk_drew ?_ | refine blk_alloc ?_ _)); exact BK101.out) hb)
   have n5_ := Aside0.mk (below_step (by repeat (first | (with_reducible first | exact HB.out | apply below_alloc | apply pw_below_drewN | apply below_drew1 | refine below_set ?_ GE101.out) | exact HB.out)) hb)
   clear HO107
   clear HO110
   clear HO113
   clear BK101
   clear HB
   have HO107 := n0_
   have HO110 := n1_
   have HO113 := n2_
   have HO116 := n3_
   have BK101 := n4_
   have HB := n5_
   clear n0_ n1_ n2_ n3_ n4_ n5_
   (try clear hb)
   (try clear hb2)
   (try clear hk)
   (try clear hi)
   (try clear ho0)
   refine hK.out _ _ ⟨(blk_cell BK101.out 0).trans rfl, (blk_cell BK101.out 1).trans rfl, (blk_cell BK101.out 2).trans rfl, (blk_cell BK101.out 3).trans rfl, (blk_cell BK101.out 4).trans rfl, (blk_cell BK101.out 5).trans rfl, (blk_cell BK101.out 6).trans rfl, (blk_cell BK101.out 7).trans rfl, (blk_cell BK101.out 8).trans rfl, (blk_cell BK101.out 9).trans rfl, (blk_cell BK101.out 10).trans rfl, (blk_cell BK101.out 11).trans rfl, (blk_cell BK101.out 12).trans rfl⟩ (fun hHeld => ?_)
   clear hK K
   refine norm_ (a' := ?_) ?_ ?_
   rotate_left
   ·show Act.put _ (some 20) _ = _
    simp only [Act.put, sQ0, sQ1, sQ2, i64_w]
    rfl
   refine pure_ (i := 9) (N := some 3) (v := ?_) (a' := ?_) #[tt,tt,tt,tt,tt,tt,tt,tt,tt,tt,ff] rfl rfl (any_of HT_.out (by kernel_rfl)) (fun _ _ _ h => h) (Or.inl ⟨by rfl, ?_⟩) ?_ ?_
   rotate_left
   ·intro w'
    go_simp
    with_reducible rfl
   rotate_left
   ·simp only [Act.put, sQ0, sQ1, sQ2, i64_w]
    rfl
   refine pure_ (i := 10) (N := some 4) (v := ?_) (a' := ?_) #[tt,tt,tt,tt,tt,tt,tt,tt,tt,tt,tt] rfl rfl (any_of HT_.out (by kernel_rfl)) (fun _ _ _ h => h) (Or.inl ⟨by rfl, ?_⟩) ?_ ?_
   rotate_left
   ·intro w'
    go_simp
    with_reducible rfl
   rotate_left
   ·simp only [Act.put, sQ0, sQ1, sQ2, i64_w]
    rfl
   refine done_ (done_of HT_.out (by kernel_rfl)) ?_
   obtain ⟨Ao53, co53, eo53⟩ := Kd.R_slice HO107.out
   subst eo53
   try go_wp2
   go_ret
   exact ⟨by first | rfl | (simp [errW_none, errW_some] <;> rfl) | (simp [*, errW_none, errW_some] <;> rfl), by repeat (first | (with_reducible first | exact HB.out | apply below_alloc | apply pw_below_drewN | apply below_drew1 | refine below_set ?_ GE101.out) | exact HB.out)⟩
 ·rw [if_neg c2] at H
  exact absurd H (by simp)
end Go.Proofs.Ythljanmfanppdaa.KVs
end
section
namespace Go.Proofs.Ythljanmfanppdaa.Vd
open Go.RowKit Go.Maps Go.Proofs.YthljanmfanppdaaW.PrintWords Go.Proofs.YthljanmfanppdaaW.PrintLast Go.Proofs.YthljanmfanppdaaW.PrintMore Go.Proofs.Ythljanmfanppdaa.Mp Go.Proofs.Ythljanmfanppdaa.Bk Go.Proofs.Ythljanmfanppdaa.KLa
set_option linter.unusedVariables false
set_option linter.unusedSimpArgs false
def spK : Cf := ⟨1, 1, 1, 1, 1, 0, 0, 1, 1, 1, 1, 0, 0⟩
def spL : List Ev7 := [⟨2, 0, 1, 0, 0, 0, 0⟩, ⟨3, 0, 1, 0, 0, 0, 0⟩, ⟨5, 0, 1, 0, 0, 0, 0⟩, ⟨1, 0, 0, 0, 1, 0, 0⟩, ⟨2, 0, 6, 0, 0, 0, 0⟩]
theorem sp_a : lateV spK spL = [] := by decide +kernel
theorem sp_b : lateV spK (spL ++ [⟨5, 0, 6, 0, 0, 0, 0⟩]) = [0] := by decide +kernel
theorem vspeaks_is : KVs.knelllaw25_speaks.f = some true := by
 have ha : ∀ l : List KVs.S60, l.length ≤ 200000 → l.all KVs.verdict_Late.wf = true → KVs.verdict_Late.f l 1 1 1 1 1 0 0 1 1 1 1 0 0 = some (lateV spK (l.map KVs.verdict_Late.ev)) := fun l h1 h2 => if_pos ⟨h1, h2⟩
 unfold KVs.knelllaw25_speaks.f
 simp only [Option.bind_some]
 rw [ha _ (by decide) (by decide)]
 show (some (lateV spK spL)).bind _ = _
 rw [sp_a, Option.bind_some, if_pos (by decide), ha _ (by decide) (by decide)]
 show (some (lateV spK (spL ++ [⟨5, 0, 6, 0, 0, 0, 0⟩]))).bind _ = _
 rw [sp_b]
 rfl
theorem vspeaks_any (W : World) : Calls Try.prog 44 #[] W fun e w' => e = .returned (.bool true) ∧ Below W.heap.size W w' := KVs.knelllaw25_speaks.calls true W vspeaks_is
def toE (x : S54) : Ev7 := ⟨x.f0, x.f1, x.f2, x.f3, x.f4, x.f5, x.f6⟩
def OwnE (W : World) (A : Option Addr) (L : List Ev7) : Prop := ∀ (i : Nat) e, L[i]? = some e → EvIn W A i e
section
variable {W W1 : World} {A : Option Addr} {L : List Ev7}
theorem OwnE.below (h : OwnE W A L) (hb : Below W.heap.size W W1) : OwnE W1 A L := fun i e he => (h i e he).below hb
theorem OwnE.take (h : OwnE W A L) (k : Nat) : OwnE W A (L.take k) := fun i e he => h i e (by
 rw [List.getElem?_take] at he
 split at he
 ·exact he
 ·cases he)
end
def ofS (x : S54) : S60 := ⟨x.f0, x.f1, x.f2, x.f3, x.f4, x.f5, x.f6⟩
theorem ofs_go (l : List S54) (hn : l.length ≤ 1000000) : ∀ (d i m : Nat), i + d = l.length → d < m → knelllaw24_Ofs.l0 m ((l.take i).map ofS) l (l.length : Int) (i : Int) = some (l.map ofS) := by
 intro d
 induction d with
 | zero =>
  intro i m hd hm
  obtain ⟨m, rfl⟩ : ∃ q, m = q + 1 := ⟨m - 1, by omega⟩
  obtain rfl : i = l.length := by omega
  rw [knelllaw24_Ofs.l0, if_neg (by omega), List.take_length]
 | succ d ih =>
  intro i m hd hm
  obtain ⟨m, rfl⟩ : ∃ q, m = q + 1 := ⟨m - 1, by omega⟩
  have hi : i < l.length := by omega
  have hrd : rd_T54 l (i : Int) = l[i] := by show l.getD i z54 = l[i]; simp [List.getD, hi]
  rw [knelllaw24_Ofs.l0, if_pos (by omega), if_pos (by omega), if_pos (by omega)]
  unfold knelllaw24_Of.f
  simp only [Option.bind_some]
  have hw : wrap64 ((i : Int) + 1) = ((i + 1 : Nat) : Int) := by unfold wrap64; omega
  rw [if_pos (by simp; omega), hw, hrd]
  have := ih (i + 1) m (by omega) (by omega)
  rw [List.take_succ_eq_append_getElem hi, List.map_append] at this
  exact this
theorem ofs_is (l : List S54) (hn : l.length ≤ 1000000) : knelllaw24_Ofs.f (l.length + 1) l = some (l.map ofS) := ofs_go l hn l.length 0 _ (by omega) (by omega)
def OfPost (l : List S54) (W : World) (r : Ending) (W' : World) : Prop := ∃ A cap, r = .returned (.slice A (l.map toE).length cap) ∧ (l.map toE).length ≤ cap ∧ OwnE W' A (l.map toE) ∧ Below W.heap.size W W'
theorem ofs_any (A0 : Option Addr) (c0 : Nat) (l : List S54) (hn : l.length ≤ 1000000) (W : World) (hr : Kd.C k54 W A0 l.length l) (hc : l.length ≤ c0) : Calls Try.prog 45 #[.slice A0 l.length c0] W (OfPost l W) := by
 refine (knelllaw24_Ofs.calls (l.length + 1) A0 c0 l (l.map ofS) W hr hc (ofs_is l hn)).mono ?_
 rintro r W' ⟨v, rfl, hR, hb⟩
 obtain ⟨A, cap, rfl⟩ := Kd.R_slice hR
 have ho := Kd.R_reads' hR
 have hlen : (l.map ofS).length = (l.map toE).length := by rw [List.length_map, List.length_map]
 refine ⟨A, cap, by rw [hlen], by rw [← hlen]; exact ho.2.1, fun i e he => ?_, hb⟩
 rw [List.getElem?_map] at he
 obtain ⟨x, hx, rfl⟩ := Option.map_eq_some_iff.1 he
 have hi : i < l.length := (List.getElem?_eq_some_iff.1 hx).1
 have hrd : rd_T60 (l.map ofS) (i : Int) = ofS x := by
  show (l.map ofS).getD i z60 = ofS x
  rw [List.getD_eq_getElem?_getD, List.getElem?_map, hx]; rfl
 have hat := at_T60 ho.2.2 (i : Int) (by omega) (by rw [List.length_map]; omega)
 rw [hrd] at hat
 exact hat
def ClPost (o : List Int) (W : World) (r : Ending) (W' : World) : Prop := ∃ A cap, r = .returned (.slice A o.length cap) ∧ o.length ≤ cap ∧ RowIs W' W.heap.size 3 1 inA (.slice A o.length cap) o ∧ Below W.heap.size W W'
theorem cl_any {W : World} {A : Option Addr} {L : List Ev7} (c : Cf) (k cap : Nat) (hk : k ≤ L.length) (hn : L.length ≤ 200000) (h : OwnE W A L) (hw : ∀ e ∈ L, wf7 e) : Calls Try.prog 48 #[.slice A k cap, .agg c.cells] W (ClPost (lateV c (L.take k)) W) := by
 have h1 := vlate_any A cap c (L.take k) (by rw [List.length_take]; omega) W (h.take k) (fun e he => hw e (List.mem_of_mem_take he))
 rw [List.length_take, Nat.min_eq_left hk] at h1
 refine h1.mono ?_
 rintro r W' ⟨v, rfl, hR, hb⟩
 obtain ⟨a, cap', rfl, hc⟩ := RowIs.form hR
 exact ⟨a, cap', rfl, hc, hR, hb⟩
end Go.Proofs.Ythljanmfanppdaa.Vd
end
section
set_option maxHeartbeats 8000000
set_option maxRecDepth 100000
namespace Go.Proofs.Ythljanmfanppdaa.Vd
open Go.RowKit Go.Maps Go.Proofs.YthljanmfanppdaaW.PrintWords Go.Proofs.YthljanmfanppdaaW.PrintLast Go.Proofs.YthljanmfanppdaaW.PrintMore Go.Proofs.Ythljanmfanppdaa.Mp Go.Proofs.Ythljanmfanppdaa.Bk Go.Proofs.Ythljanmfanppdaa.KLa
set_option linter.unusedVariables false
set_option linter.unusedSimpArgs false
def RdI (W : World) (A : Option Addr) (O : List Int) : Prop := ∀ (i : Nat) x, O[i]? = some x → ∃ g, A = some ⟨g, 0, none⟩ ∧ g < W.heap.size ∧ W.cell? ⟨g, i, none⟩ = some (.int .i64 x)
theorem RdI.of {W : World} {B : Nat} {A : Option Addr} {cap : Nat} {O : List Int} (h : RowIs W B 3 1 inA (.slice A O.length cap) O) : RdI W A O := fun i x hx => by
 obtain ⟨g, cp, hv, _, hg, hcell⟩ := h.at_ (fun _ => rfl) hx
 injection hv with hv1 _ _
 have := hcell 0 (by decide)
 rw [Nat.mul_one, Nat.add_zero] at this
 exact ⟨g, hv1, hg, this⟩
theorem RdI.below {W W1 : World} {A : Option Addr} {O : List Int} (h : RdI W A O) (hb : Below W.heap.size W W1) : RdI W1 A O := fun i x hx => by
 obtain ⟨g, h1, h2, h3⟩ := h i x hx
 exact ⟨g, h1, Nat.lt_of_lt_of_le h2 hb.size, (hb.cell (p := ⟨g, i, none⟩) h2).trans h3⟩
structure Gs (w W : World) (c : Cf) (A : Option Addr) (L : List Ev7) : Prop where
 cb_ : W.heap[w.heap.size]? = some (.cells c.cells 33 (0, 0))
 own : OwnE W A L
 bel : Below w.heap.size w W
section
variable {w W W1 : World} {c : Cf} {A : Option Addr} {L : List Ev7}
theorem Gs.step (h : Gs w W c A L) (hb : Below W.heap.size W W1) : Gs w W1 c A L := ⟨blk_below h.cb_ hb, h.own.below hb, below_step h.bel hb⟩
theorem Gs.alloc (h : Gs w W c A L) (o : Obj) : Gs w (W.alloc o) c A L := h.step (below_alloc (Below.refl _ _) o)
end
theorem small_succ' {j K : Nat} (h : j < K) (hK : K ≤ 1000) : wrap64 ((j : Int) + 1) = ((j + 1 : Nat) : Int) := by unfold wrap64; omega
theorem anyI_snoc {l : List Int} {k : Nat} {a : Int} (p : Int → Bool) (h : l[k]? = some a) : (l.take (k + 1)).any p = ((l.take k).any p || p a) := by
 obtain ⟨h1, h2⟩ := List.getElem?_eq_some_iff.1 h
 rw [List.take_succ_eq_append_getElem h1, h2, List.any_append]
 simp
theorem anyI_in {l : List Int} {x : Int} (h : x ∈ l) : l.any (fun y => x == y) = true := List.any_eq_true.2 ⟨x, h, by simp⟩
theorem lateV_len (c : Cf) (hc : c.c7 ≤ 256) (L : List Ev7) : (lateV c L).length ≤ 256 := by
 unfold lateV
 split
 ·simp
 ·have := lateL_len c (benchV c vb0 L).F (readS L L.length).1 c.c7.toNat
  omega
theorem cf_slack {c : Cf} (h : cfCode c = 0) : 0 ≤ c.c5 ∧ c.c5 ≤ 1073741823 := by
 have h1 := PureLk.cfBad_ok _ _ _ h 5 (by omega)
 have h2 : Kw.cfLeast 5 ≤ c.c5 ∧ c.c5 ≤ 1073741823 := h1
 have h3 : Kw.cfLeast 5 = 0 := by decide
 omega
theorem slack_long (c : Cf) (A1 : Option Addr) (q1 : Nat) (l1 : List S54) (a : Nat) (hn : 80 < l1.length) (w : World) :
  Calls Try.prog 13 #[.agg c.cells, .slice A1 l1.length q1, .int .u8 a] w fun r w' => r = .returned (.bool true) ∧ Below w.heap.size w w' := by
 have hu0 := Try.underlying33
 have CS := Aside0.mk (fun W => vspeaks_any W)
 have HB := Aside0.mk (And.intro (below_alloc (Below.refl w.heap.size w) (.cells c.cells 33)) (blk_new w (.cells c.cells 33)))
 have hcc := fun z => blk_cell HB.out.2 z
 have hlc := blk_lt HB.out.2
 have hn' : decide ((l1.length : Int) > 80) = true := by simp; omega
 go_enter Try.func13, Try.ntmps13
 go_wp2_with (first | (go_at_call 44; (with_reducible refine (CS.out _).mono ?_); rintro r w2 ⟨rfl, hb⟩; have n1 := Aside0.mk (And.intro (below_step HB.out.1 hb) (blk_below HB.out.2 hb)); clear hb HB hcc hlc; have HB := n1; clear n1; have hcc := fun z => blk_cell HB.out.2 z; have hlc := blk_lt HB.out.2))
 go_ret
 exact ⟨rfl, HB.out.1⟩
theorem slack_wrong (c : Cf) (A1 : Option Addr) (q1 : Nat) (l1 : List S54) (a : Nat) (hn : l1.length ≤ 80) (hc : (cfCode c == 0) = false) (w : World) :
  Calls Try.prog 13 #[.agg c.cells, .slice A1 l1.length q1, .int .u8 a] w fun r w' => r = .returned (.bool true) ∧ Below w.heap.size w w' := by
 have hu0 := Try.underlying33
 have CS := Aside0.mk (fun W => vspeaks_any W)
 have HB := Aside0.mk (And.intro (below_alloc (Below.refl w.heap.size w) (.cells c.cells 33)) (blk_new w (.cells c.cells 33)))
 have hcc := fun z => blk_cell HB.out.2 z
 have hlc := blk_lt HB.out.2
 have CR := Aside0.mk (fun W => cright_calls c W)
 rw [hc] at CR
 have hn' : decide ((l1.length : Int) > 80) = false := by simp; omega
 clear hn hc
 go_enter Try.func13, Try.ntmps13
 go_wp2_with (first | (go_at_call 44; (with_reducible refine (CS.out _).mono ?_); rintro r w2 ⟨rfl, hb⟩; have n1 := Aside0.mk (And.intro (below_step HB.out.1 hb) (blk_below HB.out.2 hb)); clear hb HB hcc hlc; have HB := n1; clear n1; have hcc := fun z => blk_cell HB.out.2 z; have hlc := blk_lt HB.out.2) | (go_at_call 22; (with_reducible refine (CR.out _).mono ?_); rintro r w2 ⟨rfl, hb⟩; have n1 := Aside0.mk (And.intro (below_step HB.out.1 hb) (blk_below HB.out.2 hb)); clear hb HB hcc hlc; have HB := n1; clear n1; have hcc := fun z => blk_cell HB.out.2 z; have hlc := blk_lt HB.out.2))
 go_ret
 exact ⟨rfl, HB.out.1⟩
theorem slack_most (c : Cf) (A1 : Option Addr) (q1 : Nat) (l1 : List S54) (a : Nat) (hn : l1.length ≤ 80) (hc : (cfCode c == 0) = true) (ha : a ≤ 255) (h5 : c.c5 + (a : Int) > 1073741823) (w : World) :
  Calls Try.prog 13 #[.agg c.cells, .slice A1 l1.length q1, .int .u8 a] w fun r w' => r = .returned (.bool true) ∧ Below w.heap.size w w' := by
 have hu0 := Try.underlying33
 have CS := Aside0.mk (fun W => vspeaks_any W)
 have HB := Aside0.mk (And.intro (below_alloc (Below.refl w.heap.size w) (.cells c.cells 33)) (blk_new w (.cells c.cells 33)))
 have hcc := fun z => blk_cell HB.out.2 z
 have hlc := blk_lt HB.out.2
 have CR := Aside0.mk (fun W => cright_calls c W)
 rw [hc] at CR
 have hn' : decide ((l1.length : Int) > 80) = false := by simp; omega
 obtain ⟨s0, s1⟩ := cf_slack (beq_iff_eq.1 hc)
 have g5 : decide (c.c5 + (a : Int) > 1073741823) = true := decide_eq_true h5
 clear hn hc h5
 go_enter Try.func13, Try.ntmps13
 go_wp2_with (first | (go_at_call 44; (with_reducible refine (CS.out _).mono ?_); rintro r w2 ⟨rfl, hb⟩; have n1 := Aside0.mk (And.intro (below_step HB.out.1 hb) (blk_below HB.out.2 hb)); clear hb HB hcc hlc; have HB := n1; clear n1; have hcc := fun z => blk_cell HB.out.2 z; have hlc := blk_lt HB.out.2) | (go_at_call 22; (with_reducible refine (CR.out _).mono ?_); rintro r w2 ⟨rfl, hb⟩; have n1 := Aside0.mk (And.intro (below_step HB.out.1 hb) (blk_below HB.out.2 hb)); clear hb HB hcc hlc; have HB := n1; clear n1; have hcc := fun z => blk_cell HB.out.2 z; have hlc := blk_lt HB.out.2))
 go_ret
 exact ⟨rfl, HB.out.1⟩
theorem late_wf {c : Cf} {l : List Ev7} {x : Int} (hc : c.c7 ≤ 256) (h : x ∈ lateV c l) : (Lit.int .i64 x).wf = true := by
 unfold lateV at h
 split at h
 ·cases h
 ·obtain ⟨i, hi, rfl, _⟩ := lateL_mem h
  exact wf_nat (by omega)
theorem lj_state {w W : World} {q g m wm k : Nat} {c : Cf} {b : Vb} (h : Lj w W q g m wm k c b) (x : Int) (hx : (Lit.int .i64 x).wf = true) : Calls Try.prog 37 #[pA g, .int .i64 x] W fun r W' => r = .returned (stV (b.F.at_ x)) ∧ Below W.heap.size W W' := by
 obtain ⟨s', hs, hB⟩ := h.be.book
 exact state_any x hx W hB
theorem slack_main (c : Cf) (A1 : Option Addr) (q1 : Nat) (l1 : List S54) (a : Nat) (hn : l1.length ≤ 80) (hc : (cfCode c == 0) = true) (ha : a ≤ 255) (h5 : ¬ c.c5 + (a : Int) > 1073741823) (w : World) (hr : Kd.C k54 w A1 l1.length l1) (hq1 : l1.length ≤ q1) (hwf : ∀ e ∈ l1.map toE, wf7 e) :
  Calls Try.prog 13 #[.agg c.cells, .slice A1 l1.length q1, .int .u8 a] w fun r w' => r = .returned (.bool true) ∧ Below w.heap.size w w' := by
 have hu0 := Try.underlying33
 have CS := Aside0.mk (fun W => vspeaks_any W)
 have HB := Aside0.mk (And.intro (below_alloc (Below.refl w.heap.size w) (.cells c.cells 33)) (blk_new w (.cells c.cells 33)))
 have hcc := fun z => blk_cell HB.out.2 z
 have hlc := blk_lt HB.out.2
 have hu1 := Try.underlying54
 have hu2 := Try.underlying60
 have hu3 := Try.underlying56
 have hu4 := Try.underlying89
 have CR := Aside0.mk (fun W => cright_calls c W)
 rw [hc] at CR
 have C3 := Aside0.mk (fun W => of_calls c W)
 have CD := Aside0.mk (fun W => of_calls (slk c (c.c5 + (a : Int))) W)
 have HC0 := Aside0.mk (beq_iff_eq.1 hc)
 have HN := Aside0.mk hn
 have HQ1 := Aside0.mk hq1
 have HWF := Aside0.mk hwf
 obtain ⟨s0, s1⟩ := cf_slack (beq_iff_eq.1 hc)
 have HSL := Aside0.mk (fun x (hx : x ∈ lateV (slk c (c.c5 + (a : Int))) (l1.map toE)) => late_slack (s := c.c5 + (a : Int)) (beq_iff_eq.1 hc) s0 (by omega) (by omega) hx)
 have CO := Aside0.mk (fun (W : World) (hb : Below w.heap.size w W) => ofs_any A1 q1 l1 (by omega) W (Kd.C_below hr hb) hq1)
 have hn' : decide ((l1.length : Int) > 80) = false := by simp; omega
 have g5 : decide (c.c5 + (a : Int) > 1073741823) = false := decide_eq_false (by omega)
 have HOP := Aside0.mk (fun x (hx : x ∈ lateV c (l1.map toE)) => late_open hx)
 have HXW := Aside0.mk (fun x (hx : x ∈ lateV c (l1.map toE)) => late_wf (cf_conns' (beq_iff_eq.1 hc)).2 hx)
 have HO1 := Aside0.mk (lateV_len c (cf_conns' (beq_iff_eq.1 hc)).2 (l1.map toE))
 have HO2 := Aside0.mk (lateV_len (slk c (c.c5 + (a : Int))) (cf_conns' (beq_iff_eq.1 hc)).2 (l1.map toE))
 clear hn hc hq1 hwf hr h5
 go_enter Try.func13, Try.ntmps13
 go_upto_region 4 with (first | (go_at_call 44; (with_reducible refine (CS.out _).mono ?_); rintro r w2 ⟨rfl, hb⟩; have n1 := Aside0.mk (And.intro (below_step HB.out.1 hb) (blk_below HB.out.2 hb)); clear hb HB hcc hlc; have HB := n1; clear n1; have hcc := fun z => blk_cell HB.out.2 z; have hlc := blk_lt HB.out.2) | (go_at_call 22; (with_reducible refine (CR.out _).mono ?_); rintro r w2 ⟨rfl, hb⟩; have n1 := Aside0.mk (And.intro (below_step HB.out.1 hb) (blk_below HB.out.2 hb)); clear hb HB hcc hlc; have HB := n1; clear n1; have hcc := fun z => blk_cell HB.out.2 z; have hlc := blk_lt HB.out.2) | (go_at_call 45; (with_reducible refine (CO.out _ HB.out.1).mono ?_); rintro r w3 ⟨A, cap, rfl, hcap, ho, hb⟩; have HF0 := Aside0.mk (show Gs w w3 c A (l1.map toE) from ⟨blk_below HB.out.2 hb, ho, below_step HB.out.1 hb⟩); have HCAP := Aside0.mk hcap; clear hcc hlc; have hcc := fun z => blk_cell HF0.out.cb_ z; have hlc := blk_lt HF0.out.cb_; clear ho hb hcap))
 have CL := Aside0.mk (fun (W : World) (h : OwnE W A (l1.map toE)) => cl_any c l1.length cap (by rw [List.length_map]; omega) (by have := HN.out; rw [List.length_map]; omega) h HWF.out)
 have CM := Aside0.mk (fun (W : World) (h : OwnE W A (l1.map toE)) => cl_any (slk c (c.c5 + (a : Int))) l1.length cap (by rw [List.length_map]; omega) (by have := HN.out; rw [List.length_map]; omega) h HWF.out)
 have hfull : (l1.map toE).take l1.length = l1.map toE := List.take_of_length_le (by rw [List.length_map]; omega)
 rw [hfull] at CL CM
 clear hfull
 obtain ⟨O1, hO1⟩ : ∃ O, lateV c (l1.map toE) = O := ⟨_, rfl⟩
 obtain ⟨O2, hO2⟩ : ∃ O, lateV (slk c (c.c5 + (a : Int))) (l1.map toE) = O := ⟨_, rfl⟩
 rw [hO1] at CL HSL HOP HO1 HXW
 rw [hO2] at CM HSL HO2
 clear hO1 hO2
 go_upto_region 7 with (first | (go_at_call 23; (with_reducible refine (C3.out _).mono ?_); rintro r w4 ⟨rfl, hb⟩; have HF1 := Aside0.mk (HF0.out.step hb); clear hcc hlc; have hcc := fun z => blk_cell HF1.out.cb_ z; have hlc := blk_lt HF1.out.cb_; clear hb) | (go_at_call 48; (with_reducible refine (CL.out _ HF1.out.own).mono ?_); rintro r w5 ⟨A2, cap2, rfl, hc2, hR2, hb⟩; have HF2 := Aside0.mk (And.intro (HF1.out.step hb) (And.intro (RdI.of hR2) hc2)); clear hcc hlc; have hcc := fun z => blk_cell HF2.out.1.cb_ z; have hlc := blk_lt HF2.out.1.cb_; clear hb hR2 hc2))
 have HD0 := Aside0.mk (And.intro (HF2.out.1.alloc (.cells (slk c (c.c5 + (a : Int))).cells 33)) (And.intro (HF2.out.2.1.below (below_alloc (Below.refl _ _) (.cells (slk c (c.c5 + (a : Int))).cells 33))) (blk_new w5 (.cells (slk c (c.c5 + (a : Int))).cells 33))))
 refine gen_world' (fun W => Gs w W c A (l1.map toE) ∧ RdI W A2 O1 ∧ W.heap[w5.heap.size]? = some (.cells (slk c (c.c5 + (a : Int))).cells 33 (0, 0))) (by exact HD0.out) fun w6 Hw6 => ?_
 have HD := Aside0.mk Hw6
 obtain ⟨db, hdb⟩ : ∃ db, w5.heap.size = db := ⟨_, rfl⟩
 rw [hdb] at HD ⊢
 clear Hw6 HD0 hcc hlc hdb
 have hcd := fun z => blk_cell HD.out.2.2 z
 have hld := blk_lt HD.out.2.2
 have HC2 := Aside0.mk HF2.out.2.2
 go_wp2_with (first | (go_at_call 23; (with_reducible refine (CD.out _).mono ?_); rintro r w7 ⟨rfl, hb⟩; have HE1 := Aside0.mk (And.intro (HD.out.1.step hb) (HD.out.2.1.below hb)); clear hb hcd hld) | (go_at_call 48; (with_reducible refine (CM.out _ HE1.out.1.own).mono ?_); rintro r w8 ⟨A3, cap3, rfl, hc3, hR3, hb⟩; have HE2 := Aside0.mk (And.intro (HE1.out.1.step hb) (And.intro (HE1.out.2.below hb) (RdI.of hR3))); clear hb hR3 hc3))
 go_loopw [61] (fun v61 wr => ∃ j : Nat, j ≤ O2.length ∧ v61 = .int .i64 j ∧ Aside0 (Gs w wr c A (l1.map toE) ∧ RdI wr A2 O1 ∧ RdI wr A3 O2)) (fun v61 _ => O2.length - (intOf v61).toNat)
 case atStart => exact ⟨0, Nat.zero_le _, rfl, HE2⟩
 case round =>
  clear HE2
  obtain ⟨j, hj, rfl, HQ⟩ := hrel
  rcases Nat.lt_or_ge j O2.length with hjl | hjg
  ·have p1 : (0 : Int) ≤ (j : Int) := Int.natCast_nonneg j
   have q1 : ((j : Int) < (O2.length : Int)) = True := eq_true (Int.ofNat_lt.2 hjl)
   obtain ⟨x, hx⟩ : ∃ x, O2[j]? = some x := ⟨_, List.getElem?_eq_getElem hjl⟩
   obtain ⟨g3, rfl, hg3, hcx⟩ := HQ.out.2.2 j x hx
   have HIN := Aside0.mk (anyI_in (HSL.out x (List.mem_of_getElem? hx)))
   have hjj : wrap64 ((j : Int) + 1) = ((j + 1 : Nat) : Int) := small_succ' hjl (by have := HO2.out; omega)
   clear hx
   go_wp2
   have HQ0 := Aside0.mk HQ.out
   obtain ⟨wo, rfl⟩ : ∃ wo : World, wo = wr := ⟨_, rfl⟩
   go_loopw [12, 67] (fun v12 v67 wq => ∃ m : Nat, m ≤ O1.length ∧ v67 = .int .i64 m ∧ v12 = .bool ((O1.take m).any (fun y => x == y)) ∧ Aside0 (Gs w wq c A (l1.map toE) ∧ RdI wq A2 O1 ∧ RdI wq (some ⟨g3, 0, none⟩) O2)) (fun _ v67 _ => O1.length - (intOf v67).toNat)
   case atStart => exact ⟨0, Nat.zero_le _, rfl, rfl, HQ0⟩
   case round =>
    clear HQ0 hcx hg3 q1 p1
    obtain ⟨m, hm, rfl, rfl, HR⟩ := hrel
    rcases Nat.lt_or_ge m O1.length with hml | hmg
    ·have p1 : (0 : Int) ≤ (m : Int) := Int.natCast_nonneg m
     have q1 : ((m : Int) < (O1.length : Int)) = True := eq_true (Int.ofNat_lt.2 hml)
     obtain ⟨y, hy⟩ : ∃ y, O1[m]? = some y := ⟨_, List.getElem?_eq_getElem hml⟩
     obtain ⟨g2, rfl, hg2, hcy⟩ := HR.out.2.1 m y hy
     have hmm : wrap64 ((m : Int) + 1) = ((m + 1 : Nat) : Int) := small_succ' hml (by have := HO1.out; omega)
     have HT := Aside0.mk (anyI_snoc (fun y => x == y) hy)
     clear hy
     have HR0 := Aside0.mk HR.out
     obtain ⟨f, hf⟩ : ∃ f, (O1.take m).any (fun y => x == y) = f := ⟨_, rfl⟩
     rw [hf] at HT ⊢
     clear hf
     cases f with
     | true =>
      go_wp2
      go_roundw
      case rel => exact ⟨m + 1, Nat.succ_le_of_lt hml, by first | rw [hmm] | simp, by rw [HT.out]; rfl, HR0⟩
      case measure => first | (rw [hmm]; simp [intOf]; omega) | (simp [intOf]; omega)
     | false =>
      go_wp2
      go_roundw
      case rel => exact ⟨m + 1, Nat.succ_le_of_lt hml, by first | rw [hmm] | simp, by rw [HT.out]; rfl, HR0⟩
      case measure => first | (rw [hmm]; simp [intOf]; omega) | (simp [intOf]; omega)
    ·have q1 : ((m : Int) < (O1.length : Int)) = False := eq_false (by omega)
     have hE : O1.take m = O1 := List.take_of_length_le hmg
     rw [hE, HIN.out]
     clear hE hmg hm
     have HR0 := Aside0.mk HR.out
     go_wp2
     go_roundw
     case rel => exact ⟨j + 1, Nat.succ_le_of_lt hjl, by first | rw [hjj] | simp, HR0⟩
     case measure => first | (rw [hjj]; simp [intOf]; omega) | (simp [intOf]; omega)
  ·have q1 : ((j : Int) < (O2.length : Int)) = False := eq_false (by omega)
   have HQ1b := Aside0.mk (And.intro HQ.out.1 HQ.out.2.1)
   have CN := Aside0.mk (fun W => vnew_any c W)
   rw [HC0.out] at CN
   clear hjg hj HQ
   have hcc := fun z => blk_cell HQ1b.out.1.cb_ z
   have hlc := blk_lt HQ1b.out.1.cb_
   go_wp2_with (first | (go_at_call 23; (with_reducible refine (C3.out _).mono ?_); rintro r w9 ⟨rfl, hb⟩; have HW9 := Aside0.mk (And.intro (HQ1b.out.1.step hb) (HQ1b.out.2.below hb)); clear hb hcc hlc) | (go_at_call 50; (with_reducible refine (CN.out _).mono ?_); rintro r w10 (⟨h0, _⟩ | ⟨_, q, g, m, wm, rfl, hbe, hb⟩); (exact absurd rfl h0); have HL0 := Aside0.mk (show Lj w9 w10 q g m wm 0 c vb0 from ⟨hbe, hb⟩); clear hbe hb))
   go_loopw [95] (fun v95 wr => ∃ k : Nat, k ≤ l1.length ∧ v95 = .int .i64 k ∧ Aside0 (Lj w9 wr q g m wm k c (benchV c vb0 ((l1.map toE).take k)))) (fun v95 _ => l1.length - (intOf v95).toNat)
   case atStart => exact ⟨0, Nat.zero_le _, rfl, HL0⟩
   case round =>
    clear HL0 q1
    obtain ⟨k, hk, rfl, HL⟩ := hrel
    rcases Nat.lt_or_ge k l1.length with hkl | hkg
    ·have p1 : (0 : Int) ≤ (k : Int) := Int.natCast_nonneg k
     have q1 : ((k : Int) < (l1.length : Int)) = True := eq_true (Int.ofNat_lt.2 hkl)
     obtain ⟨e, he⟩ : ∃ e, (l1.map toE)[k]? = some e := ⟨_, List.getElem?_eq_getElem (by rw [List.length_map]; exact hkl)⟩
     have HW := Aside0.mk (HWF.out e (List.mem_of_getElem? he))
     obtain ⟨ad, rfl, c0, c1', c2, c3, c4, c5, c6⟩ := (HW9.out.1.own k e he).below HL.out.bel
     have hkk : wrap64 ((k : Int) + 1) = ((k + 1 : Nat) : Int) := small_succ' hkl (by have := HN.out; omega)
     have HCH := Aside0.mk (fun (W : World) (h : Lj w9 W q g m wm k c (benchV c vb0 ((l1.map toE).take k))) => h.hear e HW.out (by have := HN.out; omega))
     have HX := Aside0.mk (HL.out.alloc (.cells e.cells 60))
     have HS2 := Aside0.mk (show benchV c vb0 ((l1.map toE).take (k + 1)) = (hearV c (benchV c vb0 ((l1.map toE).take k)) e).1 by obtain ⟨h1, h2⟩ := List.getElem?_eq_some_iff.1 he; rw [List.take_succ_eq_append_getElem h1, h2, benchV_snoc])
     clear he
     go_wp2_with (first | (go_at_call 51; (with_reducible refine (HCH.out _ HX.out).mono ?_); rintro r w11 ⟨rfl, hj⟩; have HJ2 := Aside0.mk hj; clear hj))
     go_roundw
     case rel => exact ⟨k + 1, Nat.succ_le_of_lt hkl, by first | rw [hkk] | simp, ⟨by rw [HS2.out]; exact HJ2.out⟩⟩
     case measure => first | (rw [hkk]; simp [intOf]; omega) | (simp [intOf]; omega)
    ·have q1 : ((k : Int) < (l1.length : Int)) = False := eq_false (by omega)
     obtain ⟨nk, hnk⟩ : ∃ nk, nk = k := ⟨_, rfl⟩
     obtain ⟨bb, hbb⟩ : ∃ bb, benchV c vb0 (l1.map toE) = bb := ⟨_, rfl⟩
     have HM0 := Aside0.mk (show Lj w9 wr q g m wm nk c bb ∧ RdI wr A2 O1 from ⟨by have := HL.out; rw [List.take_of_length_le (by rw [List.length_map]; omega), hbb, ← hnk] at this; exact this, HW9.out.2.below HL.out.bel⟩)
     rw [hbb] at HOP
     have HGB := Aside0.mk (HW9.out.1.step HL.out.bel).bel
     clear hbb hnk HL hkg hk
     go_wp2
     go_loopw [105] (fun v105 ws => ∃ j : Nat, j ≤ O1.length ∧ v105 = .int .i64 j ∧ Aside0 (Lj w9 ws q g m wm nk c bb ∧ RdI ws A2 O1)) (fun v105 _ => O1.length - (intOf v105).toNat)
     case atStart => exact ⟨0, Nat.zero_le _, rfl, HM0⟩
     case round =>
      clear HM0 q1
      obtain ⟨j, hj, rfl, HQ⟩ := hrel
      rcases Nat.lt_or_ge j O1.length with hjl | hjg
      ·have p1 : (0 : Int) ≤ (j : Int) := Int.natCast_nonneg j
       have q1 : ((j : Int) < (O1.length : Int)) = True := eq_true (Int.ofNat_lt.2 hjl)
       obtain ⟨x, hx⟩ : ∃ x, O1[j]? = some x := ⟨_, List.getElem?_eq_getElem hjl⟩
       have hxw := HXW.out x (List.mem_of_getElem? hx)
       have HXW1 := Aside0.mk hxw
       have hop := HOP.out x (List.mem_of_getElem? hx)
       obtain ⟨g2, rfl, hg2, hcx⟩ := HQ.out.2 j x hx
       have hjj : wrap64 ((j : Int) + 1) = ((j + 1 : Nat) : Int) := small_succ' hjl (by have := HO1.out; omega)
       obtain ⟨sa, sb, sd, hst⟩ : ∃ sa sb sd, bb.F.at_ x = (sa, sb, sd) := ⟨_, _, _, rfl⟩
       rw [hst] at hop
       have hop : sa = 1 ∨ sa = 2 := hop
       have CST := Aside0.mk (fun (W : World) (h : Lj w9 W q g m wm nk c bb) => lj_state h x HXW1.out)
       rw [hst] at CST
       have hfd : ∀ W : World, (Instr.field 56 (.agg #[.int .i64 sa, .int .i64 sb, .int .i64 sd]) 0).run Try.prog W = .ok (.int .i64 sa) W := fun W => by first | kernel_rfl | rfl | (simp [Instr.field, go_sem, hu3])
       have hcq := fun z => HQ.out.1.be.cell z
       have hlq := HQ.out.1.be.lt
       clear hx hxw hst
       have HQ0 := Aside0.mk HQ.out
       have key : ((sa != 1) = false) ∨ ((sa != 1) = true ∧ (sa != 2) = false) := by rcases hop with rfl | rfl <;> decide
       clear hop
       rcases key with k1 | ⟨k1, k2⟩
       ·go_wp2_with (first | (go_at_call 37; (with_reducible refine (CST.out _ HQ0.out.1).mono ?_); rintro r w12 ⟨rfl, hb⟩; have HQ3 := Aside0.mk (And.intro (HQ0.out.1.step hb) (HQ0.out.2.below hb)); clear hb))
        go_roundw
        case rel => exact ⟨j + 1, Nat.succ_le_of_lt hjl, by first | rw [hjj] | simp, HQ3⟩
        case measure => first | (rw [hjj]; simp [intOf]; omega) | (simp [intOf]; omega)
       ·go_wp2_with (first | (go_at_call 37; (with_reducible refine (CST.out _ HQ0.out.1).mono ?_); rintro r w12 ⟨rfl, hb⟩; have HQ3 := Aside0.mk (And.intro (HQ0.out.1.step hb) (HQ0.out.2.below hb)); clear hb))
        go_roundw
        case rel => exact ⟨j + 1, Nat.succ_le_of_lt hjl, by first | rw [hjj] | simp, HQ3⟩
        case measure => first | (rw [hjj]; simp [intOf]; omega) | (simp [intOf]; omega)
      ·have q1 : ((j : Int) < (O1.length : Int)) = False := eq_false (by omega)
       clear hjg hj
       go_wp2
       go_ret
       exact ⟨rfl, below_step HW9.out.1.bel HQ.out.1.bel⟩
end Go.Proofs.Ythljanmfanppdaa.Vd
end
section
namespace Go.Proofs.Ythljanmfanppdaa.KLa
open Go.RowKit Go.Proofs.YthljanmfanppdaaW.PrintWords Go.Proofs.Ythljanmfanppdaa.Bk Go.Proofs.Ythljanmfanppdaa.Vd
set_option linter.unusedVariables false
def knelllaw25_VerdictSlack.f (c0 c1 c2 c3 c4 c5 c6 c7 c8 c9 c10 c11 c12 : Int) (l1 : List S54) (a2 : Int) : Option Bool := if (∀ x ∈ l1, (Lit.int .i64 x.f3).wf = true ∧ (Lit.int .i64 x.f1).wf = true) ∧ (0 ≤ a2 ∧ a2 ≤ 255) then some true else none
theorem wf_toE {l1 : List S54} (h : ∀ x ∈ l1, (Lit.int .i64 x.f3).wf = true ∧ (Lit.int .i64 x.f1).wf = true) : ∀ e ∈ l1.map toE, wf7 e := fun e he => by
 obtain ⟨x, hx, rfl⟩ := List.mem_map.1 he
 exact h x hx
theorem knelllaw25_VerdictSlack.calls (c0 c1 c2 c3 c4 c5 c6 c7 c8 c9 c10 c11 c12 : Int) (A1 : Option Addr) (q1 : Nat) (l1 : List S54) (a2 : Int) (r : Bool) (w : World) (hr1 : Kd.C k54 w A1 l1.length l1) (hc1 : l1.length ≤ q1)
  (h : knelllaw25_VerdictSlack.f c0 c1 c2 c3 c4 c5 c6 c7 c8 c9 c10 c11 c12 l1 a2 = some r) :
  Calls Try.prog 13 #[.agg #[.int .i64 c0, .int .i64 c1, .int .i64 c2, .int .i64 c3, .int .i64 c4, .int .i64 c5, .int .i64 c6, .int .i64 c7, .int .i64 c8, .int .i64 c9, .int .i64 c10, .int .i64 c11, .int .i64 c12], .slice A1 l1.length q1, .int .u8 a2] w fun e w' => e = .returned (.bool r) ∧ Below w.heap.size w w' := by
 unfold knelllaw25_VerdictSlack.f at h
 split at h
 ·rename_i hw
  obtain rfl := Option.some.inj h
  obtain ⟨a, rfl⟩ : ∃ a : Nat, a2 = (a : Int) := ⟨a2.toNat, by omega⟩
  rcases Nat.lt_or_ge 80 l1.length with hn | hn
  ·exact slack_long ⟨c0, c1, c2, c3, c4, c5, c6, c7, c8, c9, c10, c11, c12⟩ A1 q1 l1 a hn w
  ·cases hc : (cfCode ⟨c0, c1, c2, c3, c4, c5, c6, c7, c8, c9, c10, c11, c12⟩ == 0) with
   | false => exact slack_wrong ⟨c0, c1, c2, c3, c4, c5, c6, c7, c8, c9, c10, c11, c12⟩ A1 q1 l1 a hn hc w
   | true =>
    by_cases h5 : c5 + (a : Int) > 1073741823
    ·exact slack_most ⟨c0, c1, c2, c3, c4, c5, c6, c7, c8, c9, c10, c11, c12⟩ A1 q1 l1 a hn hc (by omega) h5 w
    ·exact slack_main ⟨c0, c1, c2, c3, c4, c5, c6, c7, c8, c9, c10, c11, c12⟩ A1 q1 l1 a hn hc (by omega) h5 w hr1 hc1 (wf_toE hw.1)
 ·cases h
theorem VerdictSlack (c0 c1 c2 c3 c4 c5 c6 c7 c8 c9 c10 c11 c12 : Int) (l1 : List S54) (a2 : Int) (hw : ∀ x ∈ l1, (Lit.int .i64 x.f3).wf = true ∧ (Lit.int .i64 x.f1).wf = true) (ha : (Lit.int .u8 a2).wf = true) : knelllaw25_VerdictSlack.f c0 c1 c2 c3 c4 c5 c6 c7 c8 c9 c10 c11 c12 l1 a2 = some true := by
 have e1 : IntKind.u8.min = 0 := rfl
 have e2 : IntKind.u8.max = 255 := rfl
 have h2 : 0 ≤ a2 ∧ a2 ≤ 255 := by simpa [Lit.wf, e1, e2] using ha
 exact if_pos ⟨hw, h2⟩
end Go.Proofs.Ythljanmfanppdaa.KLa
end
section
namespace Go.Proofs.Ythljanmfanppdaa.Krow
open Go.ChangeShapes Go.WideShapes Go.Deep Go.Proofs.YthljanmfanppdaaW.PrintWords
inductive Leaf where
 | int (k : IntKind)
 | bool
def Leaf.ok : Leaf → Value → Prop
 | .int k, v => ∃ n, v = .int k n ∧ (Lit.int k n).wf = true
 | .bool, v => ∃ b, v = .bool b
def Leaves : List Leaf → List Value → Prop
 | [], [] => True
 | l :: ls, v :: vs => l.ok v ∧ Leaves ls vs
 | _, _ => False
theorem Leaves.length : ∀ {ls : List Leaf} {vs : List Value}, Leaves ls vs → vs.length = ls.length
 | [], [], _ => rfl
 | _ :: _, _ :: _, h => by simp [Leaves.length h.2]
theorem Leaves.append : ∀ {a b : List Leaf} {vs ws : List Value}, Leaves a vs → Leaves b ws → Leaves (a ++ b) (vs ++ ws)
 | [], _, [], _, _, h => h
 | _ :: _, _, _ :: _, _, h, h' => ⟨h.1, Leaves.append h.2 h'⟩
theorem Leaves.int {k : IntKind} {ls : List Leaf} {vs : List Value} (h : Leaves (.int k :: ls) vs) : ∃ n r, vs = .int k n :: r ∧ (Lit.int k n).wf = true ∧ Leaves ls r := by
 match vs, h with
 | _ :: r, ⟨⟨n, rfl, hw⟩, h⟩ => exact ⟨n, r, rfl, hw, h⟩
theorem Leaves.boole {ls : List Leaf} {vs : List Value} (h : Leaves (.bool :: ls) vs) : ∃ b r, vs = .bool b :: r ∧ Leaves ls r := by
 match vs, h with
 | _ :: r, ⟨⟨b, rfl⟩, h⟩ => exact ⟨b, r, rfl, h⟩
theorem Leaves.nil {vs : List Value} (h : Leaves [] vs) : vs = [] := by
 match vs, h with
 | [], _ => rfl
theorem collect {α : Type} {p : Nat → α → Prop} {len : Nat} (key : ∀ i, i < len → ∃ x : α, p i x) : ∃ l : List α, l.length = len ∧ ∀ i x, l[i]? = some x → p i x := by
 induction len with
 | zero => exact ⟨[], rfl, fun i x h => by simp at h⟩
 | succ len ih =>
  obtain ⟨l, hl, hx⟩ := ih (fun i hi => key i (by omega))
  obtain ⟨x, hp⟩ := key len (by omega)
  refine ⟨l ++ [x], by simp [hl], fun i y hy => ?_⟩
  by_cases hi : i < len
  ·rw [List.getElem?_append_left (by omega)] at hy
   exact hx i y hy
  ·rw [List.getElem?_append_right (by omega)] at hy
   have : i - l.length = 0 := by
    have := (List.getElem?_eq_some_iff.1 hy).1
    simp at this
    omega
   rw [this] at hy
   obtain rfl : x = y := by simpa using hy
   obtain rfl : i = len := by omega
   exact hp
def fieldsOf (f : TypeId → Option (List Leaf)) (P : Program) : List Field → Nat → Option (List Leaf)
 | [], _ => some []
 | x :: r, off => (f x.type).bind fun ls => if x.offset = off ∧ P.cellsOf x.type = ls.length then (fieldsOf f P r (off + ls.length)).map (ls ++ ·) else none
def plainOf (P : Program) : Nat → TypeId → Option (List Leaf)
 | 0, _ => none
 | n + 1, t => match P.underlying t with
  | some (.int k) => some [.int k]
  | some .bool => some [.bool]
  | some (.struct fs) => (fieldsOf (plainOf P n) P fs.toList 0).bind fun ls => if P.cellsOf t = ls.length then some ls else none
  | some (.array m e) => (plainOf P n e).bind fun ls => if P.cellsOf e = ls.length ∧ P.cellsOf t = m * ls.length then some ((List.replicate m ls).flatten) else none
  | _ => none
section
variable {H : Type} {enc : TypeId × Value → H} {P : Program} {w : World} {base : Nat} {spare : Nat → Bool} {held : Bool}
theorem fields_leaves {n : Nat} (ih : ∀ (t : TypeId) (ls : List Leaf) (fuel : Nat) (cs : List Value) (x : DataW H × List MemPlace), plainOf P n t = some ls → DataW.trod enc P w base spare held fuel t cs = some x → Leaves ls cs) (cs : List Value) (m : Nat) :
  ∀ (fs : List Field) (off : Nat) (ls : List Leaf), (∀ (i : Nat) (f : Field), fs[i]? = some f → ∃ x, DataW.trod enc P w base spare held m f.type ((cs.drop f.offset).take (P.cellsOf f.type)) = some x) →
   fieldsOf (plainOf P n) P fs off = some ls → Leaves ls ((cs.drop off).take ls.length) := by
 intro fs
 induction fs with
 | nil =>
  intro off ls _ h
  simp only [fieldsOf, Option.some.injEq] at h
  subst h
  simp [Leaves]
 | cons f r ihr =>
  intro off ls hx h
  simp only [fieldsOf] at h
  obtain ⟨l1, h1, h⟩ := Option.bind_eq_some_iff.1 h
  by_cases hc : f.offset = off ∧ P.cellsOf f.type = l1.length
  ·rw [if_pos hc] at h
   obtain ⟨l2, h2, rfl⟩ := Option.map_eq_some_iff.1 h
   obtain ⟨x, hx0⟩ := hx 0 f rfl
   rw [hc.1, hc.2] at hx0
   have a1 := ih f.type l1 m _ x h1 hx0
   have a2 := ihr (off + l1.length) l2 (fun i g hg => hx (i + 1) g hg) h2
   have e : (cs.drop off).take (l1 ++ l2).length = (cs.drop off).take l1.length ++ (cs.drop (off + l1.length)).take l2.length := by
    rw [List.length_append, List.take_add, List.drop_drop]
   rw [e]
   exact a1.append a2
  ·rw [if_neg hc] at h
   cases h
theorem blocks_leaves (ls : List Leaf) (cs : List Value) : ∀ (m off : Nat), (∀ i, i < m → Leaves ls ((cs.drop ((off + i) * ls.length)).take ls.length)) → Leaves ((List.replicate m ls).flatten) ((cs.drop (off * ls.length)).take (m * ls.length)) := by
 intro m
 induction m with
 | zero => intro off _; simp [Leaves]
 | succ m ih =>
  intro off h
  have a1 := h 0 (by omega)
  have a2 := ih (off + 1) (fun i hi => by have := h (i + 1) (by omega); rw [show off + 1 + i = off + (i + 1) by omega]; exact this)
  rw [Nat.add_zero] at a1
  rw [List.replicate_succ, List.flatten_cons, show (m + 1) * ls.length = ls.length + m * ls.length by rw [Nat.add_mul]; omega, List.take_add, List.drop_drop, show off * ls.length + ls.length = (off + 1) * ls.length by rw [Nat.add_mul]; omega]
  exact a1.append a2
theorem plain_trod : ∀ (n : Nat) (t : TypeId) (ls : List Leaf) (fuel : Nat) (cs : List Value) (x : DataW H × List MemPlace), plainOf P n t = some ls → DataW.trod enc P w base spare held fuel t cs = some x → Leaves ls cs := by
 intro n
 induction n with
 | zero => intro t ls fuel cs x h; cases h
 | succ n ih =>
  intro t ls fuel cs x h hx
  unfold plainOf at h
  split at h
  ·rename_i k hu
   obtain rfl := Option.some.inj h
   obtain ⟨a, rfl, _, hw⟩ := DataW.trod_int hu hx
   exact ⟨⟨a, rfl, hw⟩, trivial⟩
  ·rename_i hu
   obtain rfl := Option.some.inj h
   obtain ⟨b, rfl, _⟩ := DataW.trod_bool hu hx
   exact ⟨⟨b, rfl⟩, trivial⟩
  ·rename_i fs hu
   obtain ⟨l, h1, h⟩ := Option.bind_eq_some_iff.1 h
   by_cases hc : P.cellsOf t = l.length
   ·rw [if_pos hc] at h
    obtain rfl := Option.some.inj h
    obtain ⟨xs, m, _, _, hl, hlen, hf⟩ := DataW.trod_struct hu hx
    have := fields_leaves ih cs m fs.toList 0 l (fun i f hi => by
     have hi' : fs[i]? = some f := by simpa using hi
     rw [hf i f hi']
     have : i < xs.length := by rw [hlen]; exact (Array.getElem?_eq_some_iff.1 hi').1
     exact ⟨_, List.getElem?_eq_getElem this⟩) h1
    rw [List.drop_zero, List.take_of_length_le (by omega)] at this
    exact this
   ·rw [if_neg hc] at h
    cases h
  ·rename_i m e hu
   obtain ⟨l, h1, h⟩ := Option.bind_eq_some_iff.1 h
   by_cases hc : P.cellsOf e = l.length ∧ P.cellsOf t = m * l.length
   ·rw [if_pos hc] at h
    obtain rfl := Option.some.inj h
    obtain ⟨xs, q, _, _, hl, hlen, hf⟩ := DataW.trod_array hu hx
    have := blocks_leaves l cs m 0 (fun i hi => by
     have h2 := hf i hi
     rw [List.getElem?_eq_getElem (by omega), hc.1] at h2
     rw [Nat.zero_add]
     exact ih e l q _ _ h1 h2)
    rw [Nat.zero_mul, List.drop_zero, List.take_of_length_le (by omega)] at this
    exact this
   ·rw [if_neg hc] at h
    cases h
  ·cases h
theorem open_plain {r : Reach} {b0 : Nat} {t : TypeId} {v : Value} {d : DataW H} {ps : List MemPlace} {n : Nat} {ls : List Leaf} (hp : plainOf P n t = some ls) (ha : (match P.underlying t with | some (.struct _) | some (.array _ _) => true | _ => false) = true)
  (hv : Value.okWide P w r b0 t v) (h : DataW.Trod enc P w base spare held t v d ps) : ∃ cs : List Value, v = .agg cs.toArray ∧ Leaves ls cs := by
 obtain ⟨fuel, hf⟩ := h
 unfold Value.okWide at hv
 have key : ∃ cs, v = .agg cs := by
  split at hv
  ·obtain ⟨cs, h1, _⟩ := hv; exact ⟨cs, h1⟩
  ·obtain ⟨cs, h1, _⟩ := hv; exact ⟨cs, h1⟩
  ·rename_i h1 h2
   split at ha
   ·rename_i fs he; exact absurd he (h1 fs)
   ·rename_i a e he; exact absurd he (h2 a e)
   ·cases ha
 obtain ⟨cs, rfl⟩ := key
 have h2 := plain_trod n t ls fuel _ _ hp hf
 exact ⟨cs.toList, by simp, by simpa [Value.cells] using h2⟩
theorem open_rows {α : Type} (D : Kd α) (good : α → Prop) {r : Reach} {b0 : Nat} {t e : TypeId} {v : Value} {d : DataW H} {ps : List MemPlace} {n : Nat} {ls : List Leaf} (hu : P.underlying t = some (.slice e)) (hp : plainOf P n e = some ls) (hc : P.cellsOf e = ls.length) (hsz : D.sz = ls.length)
  (mk : ∀ cs : List Value, Leaves ls cs → ∃ x : α, D.K w x cs ∧ good x)
  (hv : Value.okWide P w r b0 t v) (h : DataW.Trod enc P w base spare held t v d ps) :
  ∃ (A : Option Addr) (c : Nat) (l : List α), v = .slice A l.length c ∧ l.length ≤ c ∧ l.length ≤ 9223372036854775807 ∧ Kd.C D w A l.length l ∧ ∀ x ∈ l, good x := by
 obtain ⟨A, len, cap, rfl⟩ := okWide_slice hu hv
 obtain ⟨fuel, hf⟩ := h
 rcases open_slice hu hf with ⟨hcs, _⟩ | ⟨a, len', cap', m, q, Ds, Pl, hcs, _, hl, hm, hmm, _, hi⟩
 ·simp [Value.cells] at hcs
  obtain ⟨rfl, rfl, rfl⟩ := hcs
  exact ⟨none, 0, [], rfl, Nat.le_refl _, by simp, ⟨rfl, by simp, fun h => absurd h (by simp)⟩, by simp⟩
 ·simp [Value.cells] at hcs
  obtain ⟨rfl, rfl, rfl⟩ := hcs
  have hlm : len ≤ m := by
   rw [hmm]
   split
   ·exact hl
   ·exact Nat.le_refl _
  have key : ∀ i, i < len → ∃ (x : α) (cs : List Value), D.K w x cs ∧ good x ∧ cs.length = ls.length ∧ ∀ j u, cs[j]? = some u → w.cell? (a.add (i * ls.length + j)) = some u := by
   intro i hil
   obtain ⟨cs', h1, h2⟩ := hi i (by omega)
   rw [hc] at h1
   obtain ⟨_, hlen, hcell⟩ := World.cells?_some h1
   obtain ⟨x, hx, hg⟩ := mk cs' (plain_trod n e ls q cs' _ hp h2)
   refine ⟨x, cs', hx, hg, hlen, fun j u hu => ?_⟩
   have hj : j < ls.length := by rw [← hlen]; exact (List.getElem?_eq_some_iff.1 hu).1
   rw [← Go.Deep.add_add, hcell j hj, hu]
  have ch := collect key
  obtain ⟨l, rfl, hx⟩ := ch
  have hm' : cap ≤ 9223372036854775807 := hm
  refine ⟨some a, cap, l, rfl, hl, by omega, ⟨rfl, by omega, fun _ => ⟨a, rfl, fun j p hj => ?_⟩⟩, fun x hxl => ?_⟩
  ·obtain ⟨cs, h1, _, h3, h4⟩ := hx j p hj
   refine ⟨cs, by rw [h3, hsz], h1, ?_⟩
   rw [hsz]
   exact h4
  ·obtain ⟨i, hi⟩ := List.mem_iff_getElem?.1 hxl
   obtain ⟨_, _, h2, _⟩ := hx i x hi
   exact h2
end
end Go.Proofs.Ythljanmfanppdaa.Krow
end
