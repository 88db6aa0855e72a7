/- What is proved: a part of the way to the statement ModelPlaysSaid: KJfx5, JrP, MoO, KJfx8, MoJ; no conditions. Put together by a program of this session (claimv.py). -/
import Derived.Test.YthniclbmpeklmaaVmp4
section
namespace Go.Proofs.Ythniclbmpeklmaa.KJf
open Go.RowKit Go.Proofs.YthniclbmpeklmaaW.PrintWords Go.Proofs.YthniclbmpeklmaaW.PrintLast Go.Proofs.YthniclbmpeklmaaW.PrintMore
attribute [local go_sem] max2_int min2_int max_two min_two max_three min_three max_four min_four   -- for this text's walks alone
set_option linter.unusedVariables false
set_option linter.unusedSimpArgs false
def knellref12_arm.f (a0_0 : Int) (l0_1 : List (S127)) (a1_0 : Int) (a1_1 : Int) (a2 : Int) : Option (Int × (List (S127))) := (some (([] : List (S127)) : List (S127))).bind fun y172 => (if y172.length + l0_1.length < 4398046511104 then ((some (y172 ++ l0_1 : List (S127))).bind fun y175 => ((some (([(⟨(⟨a1_0, a1_1⟩ : S36), 1, a2⟩ : S127)] : List (S127)) : List (S127))).bind fun y178 => (if y175.length + y178.length < 4398046511104 then (some (a0_0, (y175 ++ y178))) else (none)))) else (none))
def knellref12_arm.T1 : Bool × List (List Nat × List Nat) := (true, [([], []), ([], []), ([1], [1]), ([0, 2], [0, 2]), ([], []), ([], []), ([4, 5], [4, 5]), ([6], [6]), ([3, 7, 3], [3, 7]), ([0, 1, 2, 3, 4, 5, 6, 7, 8], []), ([9, 8, 8, 0, 1, 2, 3, 4, 5, 6, 7, 8], [8, 9])])
def knellref12_arm.B1 : List Nat := [0, 0, 2, 7, 0, 0, 48, 112, 255, 511, 1023]
theorem knellref12_arm.tab1 : rtab .any (opsOf Try.f81 1) = knellref12_arm.T1 := by kernel_rfl
theorem knellref12_arm.bits1 : waitsOk knellref12_arm.T1.2 knellref12_arm.B1 = true := by kernel_rfl
set_option maxHeartbeats 8000000 in
set_option maxRecDepth 100000 in
theorem knellref12_arm.calls (a0_0 : Int) (A0_1 : Option Addr) (c0_1 : Nat) (l0_1 : List (S127)) (a1_0 : Int) (a1_1 : Int) (a2 : Int) (r1 : Int) (r2 : List (S127)) (w : World) (hr0_1 : Kd.C k127 w A0_1 l0_1.length l0_1) (hc0_1 : l0_1.length ≤ c0_1) (h : knellref12_arm.f a0_0 l0_1 a1_0 a1_1 a2 = some (r1, r2)) :
  Calls Try.prog 81 #[.agg #[.int .i64 a0_0, .slice A0_1 l0_1.length c0_1], .agg #[.int .i64 a1_0, .int .i64 a1_1], .int .i64 a2] w fun e w' => ∃ v1_ : Value, e = .returned (.agg #[.int .i64 r1, v1_]) ∧ Kd.R k127 127 w' w.heap.size (fun _ => True) v1_ r2 ∧ Below w.heap.size w w' := by
 have hu43 := Try.underlying43
 have hu36 := Try.underlying36
 have hu127 := Try.underlying127
 have HR0_1 := Aside0.mk hr0_1
 have HC0_1 := Aside0.mk hc0_1
 clear hr0_1 hc0_1
 have HB := Aside0.mk (Below.refl w.heap.size w)
 have H : ((some (([] : List (S127)) : List (S127))).bind fun y172 => (if y172.length + l0_1.length < 4398046511104 then ((some (y172 ++ l0_1 : List (S127))).bind fun y175 => ((some (([(⟨(⟨a1_0, a1_1⟩ : S36), 1, a2⟩ : S127)] : List (S127)) : List (S127))).bind fun y178 => (if y175.length + y178.length < 4398046511104 then (some (a0_0, (y175 ++ y178))) else (none)))) else (none))) = some (r1, r2) := h
 clear h
 obtain ⟨y172, hy172⟩ : ∃ y_ : List (S127), y_ = (([] : List (S127))) := ⟨_, rfl⟩
 replace H : (if y172.length + l0_1.length < 4398046511104 then ((some (y172 ++ l0_1 : List (S127))).bind fun y175 => ((some (([(⟨(⟨a1_0, a1_1⟩ : S36), 1, a2⟩ : S127)] : List (S127)) : List (S127))).bind fun y178 => (if y175.length + y178.length < 4398046511104 then (some (a0_0, (y175 ++ y178))) else (none)))) else (none)) = some (r1, r2) := by first | (rw [hy172]; with_reducible exact H) | (have H2_ := (Option.bind_some _ _).symm.trans H; rw [hy172]; with_reducible exact H2_) | (have H2_ := (Option.bind_some _ _).symm.trans H; with_reducible exact H2_) | with_reducible exact H | (rw [hy172]; exact H) | exact H
 have Ny172 := Aside0.mk hy172
 clear hy172
 by_cases c4 : y172.length + l0_1.length < 4398046511104
 ·rw [if_pos c4] at H
  have LMc4 := Aside0.mk c4
  clear c4
  obtain ⟨y175, hy175⟩ : ∃ y_ : List (S127), y_ = (y172 ++ l0_1) := ⟨_, rfl⟩
  replace H : ((some (([(⟨(⟨a1_0, a1_1⟩ : S36), 1, a2⟩ : S127)] : List (S127)) : List (S127))).bind fun y178 => (if y175.length + y178.length < 4398046511104 then (some (a0_0, (y175 ++ y178))) else (none))) = some (r1, r2) := by first | (rw [hy175]; with_reducible exact H) | (have H2_ := (Option.bind_some _ _).symm.trans H; rw [hy175]; with_reducible exact H2_) | (have H2_ := (Option.bind_some _ _).symm.trans H; with_reducible exact H2_) | with_reducible exact H | (rw [hy175]; exact H) | exact H
  have Ny175 := Aside0.mk hy175
  clear hy175
  obtain ⟨y178, hy178⟩ : ∃ y_ : List (S127), y_ = (([(⟨(⟨a1_0, a1_1⟩ : S36), 1, a2⟩ : S127)] : List (S127))) := ⟨_, rfl⟩
  replace H : (if y175.length + y178.length < 4398046511104 then (some (a0_0, (y175 ++ y178))) else (none)) = some (r1, r2) := by first | (rw [hy178]; with_reducible exact H) | (have H2_ := (Option.bind_some _ _).symm.trans H; rw [hy178]; with_reducible exact H2_) | (have H2_ := (Option.bind_some _ _).symm.trans H; with_reducible exact H2_) | with_reducible exact H | (rw [hy178]; exact H) | exact H
  have Ny178 := Aside0.mk hy178
  clear hy178
  by_cases c5 : y175.length + y178.length < 4398046511104
  ·rw [if_pos c5] at H
   have LMc5 := Aside0.mk c5
   clear c5
   obtain ⟨y181, hy181⟩ : ∃ y_ : List (S127), y_ = (y175 ++ y178) := ⟨_, rfl⟩
   replace H : (some (a0_0, y181)) = some (r1, r2) := by first | (rw [hy181]; with_reducible exact H) | (have H2_ := (Option.bind_some _ _).symm.trans H; rw [hy181]; with_reducible exact H2_) | (have H2_ := (Option.bind_some _ _).symm.trans H; with_reducible exact H2_) | with_reducible exact H | (rw [hy181]; exact H) | exact H
   have Ny181 := Aside0.mk hy181
   clear hy181
   simp only [Option.some.injEq, Prod.mk.injEq] at H
   obtain ⟨rfl, rfl⟩ := H
   go_enter Try.func81, Try.ntmps81
   try go_wp2_with (first | ((with_reducible refine gate_dst (N := 3) rfl ?_); refine box_event ?hg (N := 3) ?hd (cs := #[.int .i64 a0_0, .slice A0_1 l0_1.length c0_1]) (t := 43) ?hr ?_; (case hd => rfl); (case hg => rfl); (case hr => first | (go_simp; done) | (go_simp; rfl)); intro gb169 hg w6 hbox hb; have n0_ := Aside0.mk (below_step (by repeat (first | (with_reducible first | exact HB.out | apply below_alloc | apply pw_below_drewN | apply below_drew1) | exact HB.out)) hb); have n1_ := Aside0.mk (hbox); have n2_ := Aside0.mk ((by rw [hg]; exact (below_size (by repeat (first | (with_reducible first | exact HB.out | apply below_alloc | apply pw_below_drewN | apply below_drew1) | exact HB.out))) : w.heap.size ≤ gb169)); have n3_ := Aside0.mk ((by rw [hg]; exact (below_size (by repeat (first | (with_reducible first | exact HB.out | apply below_alloc | apply pw_below_drewN | apply below_drew1) | exact HB.out))) : w.heap.size ≤ gb169)); clear HB; have HB := n0_; have BK169 := n1_; have GW169 := n2_; have GE169 := n3_; clear n0_ n1_ n2_ n3_; clear hb hbox hg) | ((with_reducible refine gate_dst (N := 4) rfl ?_); refine box_event ?hg (N := 4) ?hd (cs := #[.int .i64 a1_0, .int .i64 a1_1]) (t := 36) ?hr ?_; (case hd => rfl); (case hg => rfl); (case hr => first | (go_simp; done) | (go_simp; rfl)); intro gb170 hg w7 hbox hb; have n0_ := Aside0.mk (blk_below (g := gb169) (o := .cells #[.int .i64 a0_0, .slice A0_1 l0_1.length c0_1] 43 (0, 0)) (by (with_reducible repeat (first | refine blk_drewN ?_ _ | refine blk_drew ?_ | refine blk_alloc ?_ _)); exact BK169.out) hb); have n1_ := Aside0.mk (below_step (by repeat (first | (with_reducible first | exact HB.out | apply below_alloc | apply pw_below_drewN | apply below_drew1 | refine below_set ?_ GE169.out) | exact HB.out)) hb); have n2_ := Aside0.mk (hbox); have n3_ := Aside0.mk ((by rw [hg]; exact (below_size (by repeat (first | (with_reducible first | exact HB.out | apply below_alloc | apply pw_below_drewN | apply below_drew1 | refine below_set ?_ GE169.out) | exact HB.out))) : w.heap.size ≤ gb170)); have n4_ := Aside0.mk ((by rw [hg]; exact (below_size (by repeat (first | (with_reducible first | exact HB.out | apply below_alloc | apply pw_below_drewN | apply below_drew1 | refine below_set ?_ GE169.out) | exact HB.out))) : w.heap.size ≤ gb170)); have n5_ := Aside0.mk ((by rw [hg]; exact Nat.ne_of_lt (blk_lt (g := gb169) (o := .cells #[.int .i64 a0_0, .slice A0_1 l0_1.length c0_1] 43 (0, 0)) (by (with_reducible repeat (first | refine blk_drewN ?_ _ | refine blk_drew ?_ | refine blk_alloc ?_ _)); exact BK169.out)) : gb169 ≠ gb170)); have n6_ := Aside0.mk ((by rw [hg]; exact Nat.ne_of_gt (blk_lt (g := gb169) (o := .cells #[.int .i64 a0_0, .slice A0_1 l0_1.length c0_1] 43 (0, 0)) (by (with_reducible repeat (first | refine blk_drewN ?_ _ | refine blk_drew ?_ | refine blk_alloc ?_ _)); exact BK169.out)) : gb170 ≠ gb169)); clear BK169; clear HB; have BK169 := n0_; have HB := n1_; have BK170 := n2_; have GW170 := n3_; have GE170 := n4_; have NB169_170 := n5_; have NB170_169 := n6_; clear n0_ n1_ n2_ n3_ n4_ n5_ n6_; clear hb hbox hg) | ((with_reducible refine gate_dst (N := 6) rfl ?_); refine box_event ?hg (N := 6) ?hd (cs := #[.int .i64 0, .slice none 0 0]) (t := 43) ?hr ?_; (case hd => rfl); (case hg => rfl); (case hr => first | (go_simp; done) | (go_simp; rfl)); intro gb171 hg w8 hbox hb; have n0_ := Aside0.mk (blk_below (g := gb169) (o := .cells #[.int .i64 a0_0, .slice A0_1 l0_1.length c0_1] 43 (0, 0)) (by (with_reducible repeat (first | refine blk_drewN ?_ _ | refine blk_drew ?_ | refine blk_alloc ?_ _)); exact BK169.out) hb); have n1_ := Aside0.mk (blk_below (g := gb170) (o := .cells #[.int .i64 a1_0, .int .i64 a1_1] 36 (0, 0)) (by (with_reducible repeat (first | refine blk_drewN ?_ _ | refine blk_drew ?_ | refine blk_alloc ?_ _)); exact BK170.out) hb); have n2_ := Aside0.mk (below_step (by repeat (first | (with_reducible first | exact HB.out | apply below_alloc | apply pw_below_drewN | apply below_drew1 | refine below_set ?_ GE169.out | refine below_set ?_ GE170.out) | exact HB.out)) hb); have n3_ := Aside0.mk (hbox); have n4_ := Aside0.mk ((by rw [hg]; exact (below_size (by repeat (first | (with_reducible first | exact HB.out | apply below_alloc | apply pw_below_drewN | apply below_drew1 | refine below_set ?_ GE169.out | refine below_set ?_ GE170.out) | exact HB.out))) : w.heap.size ≤ gb171)); have n5_ := Aside0.mk ((by rw [hg]; exact (below_size (by repeat (first | (with_reducible first | exact HB.out | apply below_alloc | apply pw_below_drewN | apply below_drew1 | refine below_set ?_ GE169.out | refine below_set ?_ GE170.out) | exact HB.out))) : w.heap.size ≤ gb171)); have n6_ := Aside0.mk ((by rw [hg]; exact Nat.ne_of_lt (blk_lt (g := gb169) (o := .cells #[.int .i64 a0_0, .slice A0_1 l0_1.length c0_1] 43 (0, 0)) (by (with_reducible repeat (first | refine blk_drewN ?_ _ | refine blk_drew ?_ | refine blk_alloc ?_ _)); exact BK169.out)) : gb169 ≠ gb171)); have n7_ := Aside0.mk ((by rw [hg]; exact Nat.ne_of_gt (blk_lt (g := gb169) (o := .cells #[.int .i64 a0_0, .slice A0_1 l0_1.length c0_1] 43 (0, 0)) (by (with_reducible repeat (first | refine blk_drewN ?_ _ | refine blk_drew ?_ | refine blk_alloc ?_ _)); exact BK169.out)) : gb171 ≠ gb169)); have n8_ := Aside0.mk ((by rw [hg]; exact Nat.ne_of_lt (blk_lt (g := gb170) (o := .cells #[.int .i64 a1_0, .int .i64 a1_1] 36 (0, 0)) (by (with_reducible repeat (first | refine blk_drewN ?_ _ | refine blk_drew ?_ | refine blk_alloc ?_ _)); exact BK170.out)) : gb170 ≠ gb171)); have n9_ := Aside0.mk ((by rw [hg]; exact Nat.ne_of_gt (blk_lt (g := gb170) (o := .cells #[.int .i64 a1_0, .int .i64 a1_1] 36 (0, 0)) (by (with_reducible repeat (first | refine blk_drewN ?_ _ | refine blk_drew ?_ | refine blk_alloc ?_ _)); exact BK170.out)) : gb171 ≠ gb170)); clear BK169; clear BK170; clear HB; have BK169 := n0_; have BK170 := n1_; have HB := n2_; have BK171 := n3_; have GW171 := n4_; have GE171 := n5_; have NB169_171 := n6_; have NB171_169 := n7_; have NB170_171 := n8_; have NB171_170 := n9_; clear n0_ n1_ n2_ n3_ n4_ n5_ n6_ n7_ n8_ n9_; clear hb hbox hg))
   have n0_ := Aside0.mk (blk_drew BK169.out)
   have n1_ := Aside0.mk (blk_drew BK170.out)
   have n2_ := Aside0.mk (blk_drew BK171.out)
   have n3_ := Aside0.mk (below_drew1 HB.out)
   clear BK169
   clear BK170
   clear BK171
   clear HB
   have BK169 := n0_
   have BK170 := n1_
   have BK171 := n2_
   have HB := n3_
   clear n0_ n1_ n2_ n3_
   refine start_ (n := 11) (S := fun w' => w'.cell? ⟨gb169, 0, none⟩ = some (.int .i64 a0_0) ∧ w'.cell? ⟨gb169, 1, none⟩ = some (.slice A0_1 l0_1.length c0_1) ∧ w'.cell? ⟨gb170, 0, none⟩ = some (.int .i64 a1_0) ∧ w'.cell? ⟨gb170, 1, none⟩ = some (.int .i64 a1_1)) (ds := [10]) #[ff,ff,ff,ff,ff,ff,ff,ff,ff,ff,ff] (by kernel_rfl) rfl rfl ⟨(blk_cell BK169.out 0).trans rfl, (blk_cell BK169.out 1).trans rfl, (blk_cell BK170.out 0).trans rfl, (blk_cell BK170.out 1).trans rfl⟩ (fun hHeld => ?_); refine with_tabW knellref12_arm.tab1 knellref12_arm.bits1 (fun HT_ HW_ => ?_)
   generalize w8.drew = w9 at BK169 BK170 BK171 HB hHeld ⊢
   refine pure_ (i := 1) (N := some 8) (v := ?_) (a' := ?_) #[ff,tt,ff,ff,ff,ff,ff,ff,ff,ff,ff] rfl rfl (any_of HT_.out (by kernel_rfl)) (fun _ _ _ h => h) (Or.inl ⟨by rfl, ?_⟩) ?_ ?_
   rotate_left
   ·intro w'
    go_simp
    with_reducible rfl
   rotate_left
   ·simp only [Act.put, sQ0, sQ1, sQ2, i64_w]
    rfl
   refine pure_ (i := 5) (N := some 12) (v := ?_) (a' := ?_) #[ff,tt,ff,ff,ff,tt,ff,ff,ff,ff,ff] rfl rfl (any_of HT_.out (by kernel_rfl)) (fun _ _ _ h => h) (Or.inl ⟨by rfl, ?_⟩) ?_ ?_
   rotate_left
   ·intro w'
    go_simp
    with_reducible rfl
   rotate_left
   ·simp only [Act.put, sQ0, sQ1, sQ2, i64_w]
    rfl
   refine take_ (i := 2) (N := some 9) (v := ?_) (a' := ?_) #[ff,tt,tt,ff,ff,tt,ff,ff,ff,ff,ff] rfl rfl (take_ofW HT_.out HW_.out (by kernel_rfl)) (fun _ _ _ h => h) (Or.inl ⟨by rfl, ?_⟩) hHeld ?_ ?_
   rotate_left
   ·rintro w' ⟨s0, s1, s2, s3⟩
    go_simp
    with_reducible rfl
   rotate_left
   ·simp only [Act.put, sQ0, sQ1, sQ2, i64_w]
    rfl
   refine take_ (i := 4) (N := some 11) (v := ?_) (a' := ?_) #[ff,tt,tt,ff,tt,tt,ff,ff,ff,ff,ff] rfl rfl (take_ofW HT_.out HW_.out (by kernel_rfl)) (fun _ _ _ h => h) (Or.inl ⟨by rfl, ?_⟩) hHeld ?_ ?_
   rotate_left
   ·rintro w' ⟨s0, s1, s2, s3⟩
    go_simp
    with_reducible rfl
   rotate_left
   ·simp only [Act.put, sQ0, sQ1, sQ2, i64_w]
    rfl
   refine pure_ (i := 6) (N := some 13) (v := ?_) (a' := ?_) #[ff,tt,tt,ff,tt,tt,tt,ff,ff,ff,ff] rfl rfl (any_of HT_.out (by kernel_rfl)) (fun _ _ _ h => h) (Or.inl ⟨by rfl, ?_⟩) ?_ ?_
   rotate_left
   ·intro w'
    go_simp
    with_reducible rfl
   rotate_left
   ·simp only [Act.put, sQ0, sQ1, sQ2, i64_w]
    rfl
   refine join_ (σ := Value × Value × Value) 3 #[tt,tt,tt,tt,tt,tt,tt,tt,ff,ff,ff] (fun s_ => [(7, s_.1), (10, s_.2.1), (14, s_.2.2)]) (fun s_ w' => (w'.cell? ⟨gb169, 0, none⟩ = some (.int .i64 a0_0) ∧ w'.cell? ⟨gb169, 1, none⟩ = some (.slice A0_1 l0_1.length c0_1) ∧ w'.cell? ⟨gb170, 0, none⟩ = some (.int .i64 a1_0) ∧ w'.cell? ⟨gb170, 1, none⟩ = some (.int .i64 a1_1)) ∧ (Kd.R k127 127 w' w.heap.size (fun k_ => some k_ ≠ (s_.2.2 : Value).ownBlock) s_.2.1 y175) ∧ (Kd.R k127 127 w' w.heap.size (fun k_ => some k_ ≠ (s_.2.1 : Value).ownBlock) s_.2.2 y178) ∧ (w'.heap[gb169]? = some (.cells #[.int .i64 a0_0, .slice A0_1 l0_1.length c0_1] 43 (0, 0))) ∧ (w'.heap[gb170]? = some (.cells #[.int .i64 a1_0, .int .i64 a1_1] 36 (0, 0))) ∧ (w'.heap[gb171]? = some (.cells #[.int .i64 0, .slice none 0 0] 43 (0, 0))) ∧ (Below w.heap.size w w')) ?_ ?_
   rotate_left
   ·intro hCont
    refine two_ (i := 0) (j := 7) (Ni := some 7) (Nj := some 14) #[tt,tt,tt,ff,tt,tt,tt,ff,ff,ff,ff] #[ff,tt,tt,ff,tt,tt,tt,tt,ff,ff,ff] rfl rfl rfl rfl (two_of HT_.out (by kernel_rfl)) (by decide) (by decide) (fun K hK => ?_) (fun K hK => ?_)
    ·skip
     refine Kd.R_lit_step k127 _ 127 ?hg (N := 7) ?hd (xs := ([] : List (S127))) (inner := []) (ok := fun _ => True) (okp := fun _ => True) ?hr ?hp (fun _ hk => hk) trivial (Below.refl _ _) (Nat.le_refl _) (by simp) ?_; (case hd => rfl); (case hg => rfl); (case hr => first | (go_simp; done) | (go_simp; rfl)); (case hp => exact (Reps.none _ _))
     intro v173 w10 ho11 hb hg_ hnew_
     clear hg_ hnew_
     (first | rw [← Ny172.out] at ho11 | (simp only [Int.reduceToNat] at ho11; rw [← Ny172.out] at ho11))
     have n0_ := Aside0.mk (Kd.R_lower ho11 (below_size (by repeat (first | (with_reducible first | exact HB.out | apply below_alloc | apply pw_below_drewN | apply below_drew1 | refine below_set ?_ GE169.out | refine below_set ?_ GE170.out | refine below_set ?_ GE171.out) | exact HB.out))))
     have n1_ := Aside0.mk (blk_below (g := gb169) (o := .cells #[.int .i64 a0_0, .slice A0_1 l0_1.length c0_1] 43 (0, 0)) (by (with_reducible repeat (first | refine blk_drewN ?_ _ | refine blk_drew ?_ | refine blk_alloc ?_ _)); exact BK169.out) hb)
     have n2_ := Aside0.mk (blk_below (g := gb170) (o := .cells #[.int .i64 a1_0, .int .i64 a1_1] 36 (0, 0)) (by (with_reducible repeat (first | refine blk_drewN ?_ _ | refine blk_drew ?_ | refine blk_alloc ?_ _)); exact BK170.out) hb)
     have n3_ := Aside0.mk (blk_below (g := gb171) (o := .cells #[.int .i64 0, .slice none 0 0] 43 (0, 0)) (by (with_reducible repeat (first | refine blk_drewN ?_ _ | refine blk_drew ?_ | refine blk_alloc ?_ _)); exact BK171.out) hb)
     have n4_ := Aside0.mk (below_step (by repeat (first | (with_reducible first | exact HB.out | apply below_alloc | apply pw_below_drewN | apply below_drew1 | refine below_set ?_ GE169.out | refine below_set ?_ GE170.out | refine below_set ?_ GE171.out) | exact HB.out)) hb)
     clear BK169
     clear BK170
     clear BK171
     clear HB
     have HO174 := n0_
     have BK169 := n1_
     have BK170 := n2_
     have BK171 := n3_
     have HB := n4_
     clear n0_ n1_ n2_ n3_ n4_
     clear hb ho11
     refine hK.out _ _ ⟨(blk_cell BK169.out 0).trans rfl, (blk_cell BK169.out 1).trans rfl, (blk_cell BK170.out 0).trans rfl, (blk_cell BK170.out 1).trans rfl⟩ (fun hHeld => ?_)
     clear hK K
     refine norm_ (a' := ?_) ?_ ?_
     rotate_left
     ·show Act.put _ (some 7) _ = _
      simp only [Act.put, sQ0, sQ1, sQ2, i64_w]
      rfl
     refine two_ (i := 3) (j := 7) (Ni := some 10) (Nj := some 14) #[tt,tt,tt,tt,tt,tt,tt,ff,ff,ff,ff] #[tt,tt,tt,ff,tt,tt,tt,tt,ff,ff,ff] rfl rfl rfl rfl (two_of HT_.out (by kernel_rfl)) (by decide) (by decide) (fun K hK => ?_) (fun K hK => ?_)
     ·skip
      refine Kd.R_append_rows_step k127 (w0 := w) w.heap.size (by rfl) (.tmp 7) (.tmp 9) 41 127 (.agg #[(.int .i64 0), (.int .i64 0), (.int .i64 0), (.int .i64 0)]) 32 rfl Try.underlying41 info127 rfl (by decide) (by omega) v173 y172 l0_1 _ _ _ (fun _ => True) (fun _ => False) rfl rfl ?aO ?aR (fun _ _ h => h) (fun _ h => h.elim) ?aF ?aB ?aS ?aL ?_
      (case aR => repeat (first | exact (Kd.C_below HR0_1.out HB.out) | (with_reducible refine Kd.C_alloc ?_ _) | (with_reducible refine Kd.C_drewN ?_ _) | (with_reducible refine Kd.C_drew ?_)))
      (case aB => exact (by repeat (first | (with_reducible first | exact HB.out | apply below_alloc | apply pw_below_drewN | apply below_drew1 | refine below_set ?_ GE169.out | refine below_set ?_ GE170.out | refine below_set ?_ GE171.out) | exact HB.out)))
      (case aF => exact (fun _ _ => trivial))
      (case aO => exact (by (with_reducible repeat (first | apply Kd.R_alloc | apply Kd.R_drewN | apply Kd.R_drew)); exact HO174.out))
      (case aS => exact (below_size (by repeat (first | (with_reducible first | exact HB.out | apply below_alloc | apply pw_below_drewN | apply below_drew1 | refine below_set ?_ GE169.out | refine below_set ?_ GE170.out | refine below_set ?_ GE171.out) | exact HB.out))))
      (case aL => have := LMc4.out; omega)
      intro v176 w12 ho hb hg hat
      rw [← Ny175.out] at ho
      have n0_ := Aside0.mk (blk_grown (g := gb169) (o := .cells #[.int .i64 a0_0, .slice A0_1 l0_1.length c0_1] 43 (0, 0)) (by (with_reducible repeat (first | refine blk_drewN ?_ _ | refine blk_drew ?_ | refine blk_alloc ?_ _)); exact BK169.out) hg (Kd.R_ne HO174.out BK169.out (by decide)))
      have n1_ := Aside0.mk (blk_grown (g := gb170) (o := .cells #[.int .i64 a1_0, .int .i64 a1_1] 36 (0, 0)) (by (with_reducible repeat (first | refine blk_drewN ?_ _ | refine blk_drew ?_ | refine blk_alloc ?_ _)); exact BK170.out) hg (Kd.R_ne HO174.out BK170.out (by decide)))
      have n2_ := Aside0.mk (blk_grown (g := gb171) (o := .cells #[.int .i64 0, .slice none 0 0] 43 (0, 0)) (by (with_reducible repeat (first | refine blk_drewN ?_ _ | refine blk_drew ?_ | refine blk_alloc ?_ _)); exact BK171.out) hg (Kd.R_ne HO174.out BK171.out (by decide)))
      have n3_ := Aside0.mk (hb)
      have n4_ := Aside0.mk (ho)
      clear BK169
      clear BK170
      clear BK171
      clear HB
      clear HO174
      have BK169 := n0_
      have BK170 := n1_
      have BK171 := n2_
      have HB := n3_
      have HO177 := n4_
      clear n0_ n1_ n2_ n3_ n4_
      clear ho hb hg hat
      refine hK.out _ _ ⟨(blk_cell BK169.out 0).trans rfl, (blk_cell BK169.out 1).trans rfl, (blk_cell BK170.out 0).trans rfl, (blk_cell BK170.out 1).trans rfl⟩ (fun hHeld => ?_)
      clear hK K
      refine norm_ (a' := ?_) ?_ ?_
      rotate_left
      ·show Act.put _ (some 10) _ = _
       simp only [Act.put, sQ0, sQ1, sQ2, i64_w]
       rfl
      refine one_ (i := 7) (N := some 14) #[tt,tt,tt,tt,tt,tt,tt,tt,ff,ff,ff] rfl rfl (one_of HT_.out (by kernel_rfl)) (by decide) (fun K hK => ?_)
      refine Kd.R_lit_step k127 _ 127 ?hg (N := 14) ?hd (xs := ([(⟨(⟨a1_0, a1_1⟩ : S36), 1, a2⟩ : S127)] : List (S127))) (inner := [.int .i64 a1_0, .int .i64 a1_1, .int .i64 1, .int .i64 a2]) (ok := fun _ => True) (okp := fun _ => True) ?hr ?hp (fun _ hk => hk) trivial (Below.refl _ _) (Nat.le_refl _) (by simp) ?_; (case hd => rfl); (case hg => rfl); (case hr => first | (go_simp; done) | (go_simp; rfl)); (case hp => exact (Reps.c4 (show Kd.M k127 _ _ _ (⟨(⟨a1_0, a1_1⟩ : S36), 1, a2⟩ : S127) [.int .i64 a1_0, .int .i64 a1_1, .int .i64 1, .int .i64 a2] from (k127_mkM _ _ _ (⟨(⟨a1_0, a1_1⟩ : S36), 1, a2⟩ : S127) )) (Reps.none _ _)))
      intro v179 w13 ho14 hb hg_ hnew_
      clear hg_ hnew_
      (first | rw [← Ny178.out] at ho14 | (simp only [Int.reduceToNat] at ho14; rw [← Ny178.out] at ho14))
      have n0_ := Aside0.mk (Kd.R_elder' (by (with_reducible repeat (first | apply Kd.R_alloc | apply Kd.R_drewN | apply Kd.R_drew)); exact HO177.out) (Kd.R_base ho14) hb)
      have n1_ := Aside0.mk (Kd.R_lower (Kd.R_new' ho14 (Kd.R_lt (by (with_reducible repeat (first | apply Kd.R_alloc | apply Kd.R_drewN | apply Kd.R_drew)); exact HO177.out))) (below_size (by repeat (first | (with_reducible first | exact HB.out | apply below_alloc | apply pw_below_drewN | apply below_drew1 | refine below_set ?_ GE169.out | refine below_set ?_ GE170.out | refine below_set ?_ GE171.out) | exact HB.out))))
      have n2_ := Aside0.mk (blk_below (g := gb169) (o := .cells #[.int .i64 a0_0, .slice A0_1 l0_1.length c0_1] 43 (0, 0)) (by (with_reducible repeat (first | refine blk_drewN ?_ _ | refine blk_drew ?_ | refine blk_alloc ?_ _)); exact BK169.out) hb)
      have n3_ := Aside0.mk (blk_below (g := gb170) (o := .cells #[.int .i64 a1_0, .int .i64 a1_1] 36 (0, 0)) (by (with_reducible repeat (first | refine blk_drewN ?_ _ | refine blk_drew ?_ | refine blk_alloc ?_ _)); exact BK170.out) hb)
      have n4_ := Aside0.mk (blk_below (g := gb171) (o := .cells #[.int .i64 0, .slice none 0 0] 43 (0, 0)) (by (with_reducible repeat (first | refine blk_drewN ?_ _ | refine blk_drew ?_ | refine blk_alloc ?_ _)); exact BK171.out) hb)
      have n5_ := Aside0.mk (below_step (by repeat (first | (with_reducible first | exact HB.out | apply below_alloc | apply pw_below_drewN | apply below_drew1 | refine below_set ?_ GE169.out | refine below_set ?_ GE170.out | refine below_set ?_ GE171.out) | exact HB.out)) hb)
      clear HO177
      clear BK169
      clear BK170
      clear BK171
      clear HB
      have HO177 := n0_
      have HO180 := n1_
      have BK169 := n2_
      have BK170 := n3_
      have BK171 := n4_
      have HB := n5_
      clear n0_ n1_ n2_ n3_ n4_ n5_
      clear hb ho14
      refine hK.out _ _ ⟨(blk_cell BK169.out 0).trans rfl, (blk_cell BK169.out 1).trans rfl, (blk_cell BK170.out 0).trans rfl, (blk_cell BK170.out 1).trans rfl⟩ (fun hHeld => ?_)
      clear hK K
      refine norm_ (a' := ?_) ?_ ?_
      rotate_left
      ·show Act.put _ (some 14) _ = _
       simp only [Act.put, sQ0, sQ1, sQ2, i64_w]
       rfl
      exact norm_ (by simp only [putAll, Act.put, sQ0, sQ1, sQ2]) (hCont (v173, v176, v179) _ ⟨hHeld, (by (with_reducible repeat (first | apply Kd.R_alloc | apply Kd.R_drewN | apply Kd.R_drew)); exact Kd.R_mono HO177.out (fun _ hk => hk.2)), (by (with_reducible repeat (first | apply Kd.R_alloc | apply Kd.R_drewN | apply Kd.R_drew)); exact Kd.R_mono HO180.out (fun _ hk => hk.2)), (by (with_reducible repeat (first | refine blk_drewN ?_ _ | refine blk_drew ?_ | refine blk_alloc ?_ _)); exact BK169.out), (by (with_reducible repeat (first | refine blk_drewN ?_ _ | refine blk_drew ?_ | refine blk_alloc ?_ _)); exact BK170.out), (by (with_reducible repeat (first | refine blk_drewN ?_ _ | refine blk_drew ?_ | refine blk_alloc ?_ _)); exact BK171.out), (by repeat (first | (with_reducible first | exact HB.out | apply below_alloc | apply pw_below_drewN | apply below_drew1 | refine below_set ?_ GE169.out | refine below_set ?_ GE170.out | refine below_set ?_ GE171.out) | exact HB.out))⟩)
     ·skip
      refine Kd.R_lit_step k127 _ 127 ?hg (N := 14) ?hd (xs := ([(⟨(⟨a1_0, a1_1⟩ : S36), 1, a2⟩ : S127)] : List (S127))) (inner := [.int .i64 a1_0, .int .i64 a1_1, .int .i64 1, .int .i64 a2]) (ok := fun _ => True) (okp := fun _ => True) ?hr ?hp (fun _ hk => hk) trivial (Below.refl _ _) (Nat.le_refl _) (by simp) ?_; (case hd => rfl); (case hg => rfl); (case hr => first | (go_simp; done) | (go_simp; rfl)); (case hp => exact (Reps.c4 (show Kd.M k127 _ _ _ (⟨(⟨a1_0, a1_1⟩ : S36), 1, a2⟩ : S127) [.int .i64 a1_0, .int .i64 a1_1, .int .i64 1, .int .i64 a2] from (k127_mkM _ _ _ (⟨(⟨a1_0, a1_1⟩ : S36), 1, a2⟩ : S127) )) (Reps.none _ _)))
      intro v179 w12 ho13 hb hg_ hnew_
      clear hg_ hnew_
      (first | rw [← Ny178.out] at ho13 | (simp only [Int.reduceToNat] at ho13; rw [← Ny178.out] at ho13))
      have n0_ := Aside0.mk (Kd.R_elder' (by (with_reducible repeat (first | apply Kd.R_alloc | apply Kd.R_drewN | apply Kd.R_drew)); exact HO174.out) (Kd.R_base ho13) hb)
      have n1_ := Aside0.mk (Kd.R_lower (Kd.R_new' ho13 (Kd.R_lt (by (with_reducible repeat (first | apply Kd.R_alloc | apply Kd.R_drewN | apply Kd.R_drew)); exact HO174.out))) (below_size (by repeat (first | (with_reducible first | exact HB.out | apply below_alloc | apply pw_below_drewN | apply below_drew1 | refine below_set ?_ GE169.out | refine below_set ?_ GE170.out | refine below_set ?_ GE171.out) | exact HB.out))))
      have n2_ := Aside0.mk (blk_below (g := gb169) (o := .cells #[.int .i64 a0_0, .slice A0_1 l0_1.length c0_1] 43 (0, 0)) (by (with_reducible repeat (first | refine blk_drewN ?_ _ | refine blk_drew ?_ | refine blk_alloc ?_ _)); exact BK169.out) hb)
      have n3_ := Aside0.mk (blk_below (g := gb170) (o := .cells #[.int .i64 a1_0, .int .i64 a1_1] 36 (0, 0)) (by (with_reducible repeat (first | refine blk_drewN ?_ _ | refine blk_drew ?_ | refine blk_alloc ?_ _)); exact BK170.out) hb)
      have n4_ := Aside0.mk (blk_below (g := gb171) (o := .cells #[.int .i64 0, .slice none 0 0] 43 (0, 0)) (by (with_reducible repeat (first | refine blk_drewN ?_ _ | refine blk_drew ?_ | refine blk_alloc ?_ _)); exact BK171.out) hb)
      have n5_ := Aside0.mk (below_step (by repeat (first | (with_reducible first | exact HB.out | apply below_alloc | apply pw_below_drewN | apply below_drew1 | refine below_set ?_ GE169.out | refine below_set ?_ GE170.out | refine below_set ?_ GE171.out) | exact HB.out)) hb)
      clear HO174
      clear BK169
      clear BK170
      clear BK171
      clear HB
      have HO174 := n0_
      have HO180 := n1_
      have BK169 := n2_
      have BK170 := n3_
      have BK171 := n4_
      have HB := n5_
      clear n0_ n1_ n2_ n3_ n4_ n5_
      clear hb ho13
      refine hK.out _ _ ⟨(blk_cell BK169.out 0).trans rfl, (blk_cell BK169.out 1).trans rfl, (blk_cell BK170.out 0).trans rfl, (blk_cell BK170.out 1).trans rfl⟩ (fun hHeld => ?_)
      clear hK K
      refine norm_ (a' := ?_) ?_ ?_
      rotate_left
      ·show Act.put _ (some 14) _ = _
       simp only [Act.put, sQ0, sQ1, sQ2, i64_w]
       rfl
      refine one_ (i := 3) (N := some 10) #[tt,tt,tt,tt,tt,tt,tt,tt,ff,ff,ff] rfl rfl (one_of HT_.out (by kernel_rfl)) (by decide) (fun K hK => ?_)
      refine Kd.R_append_rows_step k127 (w0 := w) w.heap.size (by rfl) (.tmp 7) (.tmp 9) 41 127 (.agg #[(.int .i64 0), (.int .i64 0), (.int .i64 0), (.int .i64 0)]) 32 rfl Try.underlying41 info127 rfl (by decide) (by omega) v173 y172 l0_1 _ _ _ (fun k_ => some k_ ≠ (v179 : Value).ownBlock) (fun _ => False) rfl rfl ?aO ?aR (fun _ _ h => h) (fun _ h => h.elim) ?aF ?aB ?aS ?aL ?_
      (case aR => repeat (first | exact (Kd.C_below HR0_1.out HB.out) | (with_reducible refine Kd.C_alloc ?_ _) | (with_reducible refine Kd.C_drewN ?_ _) | (with_reducible refine Kd.C_drew ?_)))
      (case aB => exact (by repeat (first | (with_reducible first | exact HB.out | apply below_alloc | apply pw_below_drewN | apply below_drew1 | refine below_set ?_ GE169.out | refine below_set ?_ GE170.out | refine below_set ?_ GE171.out) | exact HB.out)))
      (case aF => exact (fun k_ hk => Kd.fresh' (Kd.R_lt (by (with_reducible repeat (first | apply Kd.R_alloc | apply Kd.R_drewN | apply Kd.R_drew)); exact HO180.out)) k_ hk))
      (case aO => exact (by (with_reducible repeat (first | apply Kd.R_alloc | apply Kd.R_drewN | apply Kd.R_drew)); exact Kd.R_mono HO174.out (fun _ hk => hk.2)))
      (case aS => exact (below_size (by repeat (first | (with_reducible first | exact HB.out | apply below_alloc | apply pw_below_drewN | apply below_drew1 | refine below_set ?_ GE169.out | refine below_set ?_ GE170.out | refine below_set ?_ GE171.out) | exact HB.out))))
      (case aL => have := LMc4.out; omega)
      intro v176 w14 ho hb hg hat
      rw [← Ny175.out] at ho
      have n0_ := Aside0.mk (blk_grown (g := gb169) (o := .cells #[.int .i64 a0_0, .slice A0_1 l0_1.length c0_1] 43 (0, 0)) (by (with_reducible repeat (first | refine blk_drewN ?_ _ | refine blk_drew ?_ | refine blk_alloc ?_ _)); exact BK169.out) hg (Kd.R_ne HO174.out BK169.out (by decide)))
      have n1_ := Aside0.mk (blk_grown (g := gb170) (o := .cells #[.int .i64 a1_0, .int .i64 a1_1] 36 (0, 0)) (by (with_reducible repeat (first | refine blk_drewN ?_ _ | refine blk_drew ?_ | refine blk_alloc ?_ _)); exact BK170.out) hg (Kd.R_ne HO174.out BK170.out (by decide)))
      have n2_ := Aside0.mk (blk_grown (g := gb171) (o := .cells #[.int .i64 0, .slice none 0 0] 43 (0, 0)) (by (with_reducible repeat (first | refine blk_drewN ?_ _ | refine blk_drew ?_ | refine blk_alloc ?_ _)); exact BK171.out) hg (Kd.R_ne HO174.out BK171.out (by decide)))
      have n3_ := Aside0.mk (Kd.R_after (ok := (fun _ => True)) (by (with_reducible repeat (first | apply Kd.R_alloc | apply Kd.R_drewN | apply Kd.R_drew)); exact HO180.out) hg hat)
      have n4_ := Aside0.mk (hb)
      have n5_ := Aside0.mk (ho)
      clear BK169
      clear BK170
      clear BK171
      clear HO180
      clear HB
      clear HO174
      have BK169 := n0_
      have BK170 := n1_
      have BK171 := n2_
      have HO180 := n3_
      have HB := n4_
      have HO177 := n5_
      clear n0_ n1_ n2_ n3_ n4_ n5_
      clear ho hb hg hat
      refine hK.out _ _ ⟨(blk_cell BK169.out 0).trans rfl, (blk_cell BK169.out 1).trans rfl, (blk_cell BK170.out 0).trans rfl, (blk_cell BK170.out 1).trans rfl⟩ (fun hHeld => ?_)
      clear hK K
      refine norm_ (a' := ?_) ?_ ?_
      rotate_left
      ·show Act.put _ (some 10) _ = _
       simp only [Act.put, sQ0, sQ1, sQ2, i64_w]
       rfl
      exact norm_ (by simp only [putAll, Act.put, sQ0, sQ1, sQ2]) (hCont (v173, v176, v179) _ ⟨hHeld, (by (with_reducible repeat (first | apply Kd.R_alloc | apply Kd.R_drewN | apply Kd.R_drew)); exact HO177.out), (by (with_reducible repeat (first | apply Kd.R_alloc | apply Kd.R_drewN | apply Kd.R_drew)); exact Kd.R_mono HO180.out (fun _ hk => hk.2)), (by (with_reducible repeat (first | refine blk_drewN ?_ _ | refine blk_drew ?_ | refine blk_alloc ?_ _)); exact BK169.out), (by (with_reducible repeat (first | refine blk_drewN ?_ _ | refine blk_drew ?_ | refine blk_alloc ?_ _)); exact BK170.out), (by (with_reducible repeat (first | refine blk_drewN ?_ _ | refine blk_drew ?_ | refine blk_alloc ?_ _)); exact BK171.out), (by repeat (first | (with_reducible first | exact HB.out | apply below_alloc | apply pw_below_drewN | apply below_drew1 | refine below_set ?_ GE169.out | refine below_set ?_ GE170.out | refine below_set ?_ GE171.out) | exact HB.out))⟩)
    ·skip
     refine Kd.R_lit_step k127 _ 127 ?hg (N := 14) ?hd (xs := ([(⟨(⟨a1_0, a1_1⟩ : S36), 1, a2⟩ : S127)] : List (S127))) (inner := [.int .i64 a1_0, .int .i64 a1_1, .int .i64 1, .int .i64 a2]) (ok := fun _ => True) (okp := fun _ => True) ?hr ?hp (fun _ hk => hk) trivial (Below.refl _ _) (Nat.le_refl _) (by simp) ?_; (case hd => rfl); (case hg => rfl); (case hr => first | (go_simp; done) | (go_simp; rfl)); (case hp => exact (Reps.c4 (show Kd.M k127 _ _ _ (⟨(⟨a1_0, a1_1⟩ : S36), 1, a2⟩ : S127) [.int .i64 a1_0, .int .i64 a1_1, .int .i64 1, .int .i64 a2] from (k127_mkM _ _ _ (⟨(⟨a1_0, a1_1⟩ : S36), 1, a2⟩ : S127) )) (Reps.none _ _)))
     intro v179 w10 ho11 hb hg_ hnew_
     clear hg_ hnew_
     (first | rw [← Ny178.out] at ho11 | (simp only [Int.reduceToNat] at ho11; rw [← Ny178.out] at ho11))
     have n0_ := Aside0.mk (Kd.R_lower ho11 (below_size (by repeat (first | (with_reducible first | exact HB.out | apply below_alloc | apply pw_below_drewN | apply below_drew1 | refine below_set ?_ GE169.out | refine below_set ?_ GE170.out | refine below_set ?_ GE171.out) | exact HB.out))))
     have n1_ := Aside0.mk (blk_below (g := gb169) (o := .cells #[.int .i64 a0_0, .slice A0_1 l0_1.length c0_1] 43 (0, 0)) (by (with_reducible repeat (first | refine blk_drewN ?_ _ | refine blk_drew ?_ | refine blk_alloc ?_ _)); exact BK169.out) hb)
     have n2_ := Aside0.mk (blk_below (g := gb170) (o := .cells #[.int .i64 a1_0, .int .i64 a1_1] 36 (0, 0)) (by (with_reducible repeat (first | refine blk_drewN ?_ _ | refine blk_drew ?_ | refine blk_alloc ?_ _)); exact BK170.out) hb)
     have n3_ := Aside0.mk (blk_below (g := gb171) (o := .cells #[.int .i64 0, .slice none 0 0] 43 (0, 0)) (by (with_reducible repeat (first | refine blk_drewN ?_ _ | refine blk_drew ?_ | refine blk_alloc ?_ _)); exact BK171.out) hb)
     have n4_ := Aside0.mk (below_step (by repeat (first | (with_reducible first | exact HB.out | apply below_alloc | apply pw_below_drewN | apply below_drew1 | refine below_set ?_ GE169.out | refine below_set ?_ GE170.out | refine below_set ?_ GE171.out) | exact HB.out)) hb)
     clear BK169
     clear BK170
     clear BK171
     clear HB
     have HO180 := n0_
     have BK169 := n1_
     have BK170 := n2_
     have BK171 := n3_
     have HB := n4_
     clear n0_ n1_ n2_ n3_ n4_
     clear hb ho11
     refine hK.out _ _ ⟨(blk_cell BK169.out 0).trans rfl, (blk_cell BK169.out 1).trans rfl, (blk_cell BK170.out 0).trans rfl, (blk_cell BK170.out 1).trans rfl⟩ (fun hHeld => ?_)
     clear hK K
     refine norm_ (a' := ?_) ?_ ?_
     rotate_left
     ·show Act.put _ (some 14) _ = _
      simp only [Act.put, sQ0, sQ1, sQ2, i64_w]
      rfl
     refine one_ (i := 0) (N := some 7) #[tt,tt,tt,ff,tt,tt,tt,tt,ff,ff,ff] rfl rfl (one_of HT_.out (by kernel_rfl)) (by decide) (fun K hK => ?_)
     refine Kd.R_lit_step k127 _ 127 ?hg (N := 7) ?hd (xs := ([] : List (S127))) (inner := []) (ok := fun _ => True) (okp := fun _ => True) ?hr ?hp (fun _ hk => hk) trivial (Below.refl _ _) (Nat.le_refl _) (by simp) ?_; (case hd => rfl); (case hg => rfl); (case hr => first | (go_simp; done) | (go_simp; rfl)); (case hp => exact (Reps.none _ _))
     intro v173 w12 ho13 hb hg_ hnew_
     clear hg_ hnew_
     (first | rw [← Ny172.out] at ho13 | (simp only [Int.reduceToNat] at ho13; rw [← Ny172.out] at ho13))
     have n0_ := Aside0.mk (Kd.R_elder' (by (with_reducible repeat (first | apply Kd.R_alloc | apply Kd.R_drewN | apply Kd.R_drew)); exact HO180.out) (Kd.R_base ho13) hb)
     have n1_ := Aside0.mk (Kd.R_lower (Kd.R_new' ho13 (Kd.R_lt (by (with_reducible repeat (first | apply Kd.R_alloc | apply Kd.R_drewN | apply Kd.R_drew)); exact HO180.out))) (below_size (by repeat (first | (with_reducible first | exact HB.out | apply below_alloc | apply pw_below_drewN | apply below_drew1 | refine below_set ?_ GE169.out | refine below_set ?_ GE170.out | refine below_set ?_ GE171.out) | exact HB.out))))
     have n2_ := Aside0.mk (blk_below (g := gb169) (o := .cells #[.int .i64 a0_0, .slice A0_1 l0_1.length c0_1] 43 (0, 0)) (by (with_reducible repeat (first | refine blk_drewN ?_ _ | refine blk_drew ?_ | refine blk_alloc ?_ _)); exact BK169.out) hb)
     have n3_ := Aside0.mk (blk_below (g := gb170) (o := .cells #[.int .i64 a1_0, .int .i64 a1_1] 36 (0, 0)) (by (with_reducible repeat (first | refine blk_drewN ?_ _ | refine blk_drew ?_ | refine blk_alloc ?_ _)); exact BK170.out) hb)
     have n4_ := Aside0.mk (blk_below (g := gb171) (o := .cells #[.int .i64 0, .slice none 0 0] 43 (0, 0)) (by (with_reducible repeat (first | refine blk_drewN ?_ _ | refine blk_drew ?_ | refine blk_alloc ?_ _)); exact BK171.out) hb)
     have n5_ := Aside0.mk (below_step (by repeat (first | (with_reducible first | exact HB.out | apply below_alloc | apply pw_below_drewN | apply below_drew1 | refine below_set ?_ GE169.out | refine below_set ?_ GE170.out | refine below_set ?_ GE171.out) | exact HB.out)) hb)
     clear HO180
     clear BK169
     clear BK170
     clear BK171
     clear HB
     have HO180 := n0_
     have HO174 := n1_
     have BK169 := n2_
     have BK170 := n3_
     have BK171 := n4_
     have HB := n5_
     clear n0_ n1_ n2_ n3_ n4_ n5_
     clear hb ho13
     refine hK.out _ _ ⟨(blk_cell BK169.out 0).trans rfl, (blk_cell BK169.out 1).trans rfl, (blk_cell BK170.out 0).trans rfl, (blk_cell BK170.out 1).trans rfl⟩ (fun hHeld => ?_)
     clear hK K
     refine norm_ (a' := ?_) ?_ ?_
     rotate_left
     ·show Act.put _ (some 7) _ = _
      simp only [Act.put, sQ0, sQ1, sQ2, i64_w]
      rfl
     refine one_ (i := 3) (N := some 10) #[tt,tt,tt,tt,tt,tt,tt,tt,ff,ff,ff] rfl rfl (one_of HT_.out (by kernel_rfl)) (by decide) (fun K hK => ?_)
     refine Kd.R_append_rows_step k127 (w0 := w) w.heap.size (by rfl) (.tmp 7) (.tmp 9) 41 127 (.agg #[(.int .i64 0), (.int .i64 0), (.int .i64 0), (.int .i64 0)]) 32 rfl Try.underlying41 info127 rfl (by decide) (by omega) v173 y172 l0_1 _ _ _ (fun k_ => some k_ ≠ (v179 : Value).ownBlock) (fun _ => False) rfl rfl ?aO ?aR (fun _ _ h => h) (fun _ h => h.elim) ?aF ?aB ?aS ?aL ?_
     (case aR => repeat (first | exact (Kd.C_below HR0_1.out HB.out) | (with_reducible refine Kd.C_alloc ?_ _) | (with_reducible refine Kd.C_drewN ?_ _) | (with_reducible refine Kd.C_drew ?_)))
     (case aB => exact (by repeat (first | (with_reducible first | exact HB.out | apply below_alloc | apply pw_below_drewN | apply below_drew1 | refine below_set ?_ GE169.out | refine below_set ?_ GE170.out | refine below_set ?_ GE171.out) | exact HB.out)))
     (case aF => exact (fun k_ hk => Kd.fresh' (Kd.R_lt (by (with_reducible repeat (first | apply Kd.R_alloc | apply Kd.R_drewN | apply Kd.R_drew)); exact HO180.out)) k_ hk))
     (case aO => exact (by (with_reducible repeat (first | apply Kd.R_alloc | apply Kd.R_drewN | apply Kd.R_drew)); exact Kd.R_mono HO174.out (fun _ hk => hk.2)))
     (case aS => exact (below_size (by repeat (first | (with_reducible first | exact HB.out | apply below_alloc | apply pw_below_drewN | apply below_drew1 | refine below_set ?_ GE169.out | refine below_set ?_ GE170.out | refine below_set ?_ GE171.out) | exact HB.out))))
     (case aL => have := LMc4.out; omega)
     intro v176 w14 ho hb hg hat
     rw [← Ny175.out] at ho
     have n0_ := Aside0.mk (blk_grown (g := gb169) (o := .cells #[.int .i64 a0_0, .slice A0_1 l0_1.length c0_1] 43 (0, 0)) (by (with_reducible repeat (first | refine blk_drewN ?_ _ | refine blk_drew ?_ | refine blk_alloc ?_ _)); exact BK169.out) hg (Kd.R_ne HO174.out BK169.out (by decide)))
     have n1_ := Aside0.mk (blk_grown (g := gb170) (o := .cells #[.int .i64 a1_0, .int .i64 a1_1] 36 (0, 0)) (by (with_reducible repeat (first | refine blk_drewN ?_ _ | refine blk_drew ?_ | refine blk_alloc ?_ _)); exact BK170.out) hg (Kd.R_ne HO174.out BK170.out (by decide)))
     have n2_ := Aside0.mk (blk_grown (g := gb171) (o := .cells #[.int .i64 0, .slice none 0 0] 43 (0, 0)) (by (with_reducible repeat (first | refine blk_drewN ?_ _ | refine blk_drew ?_ | refine blk_alloc ?_ _)); exact BK171.out) hg (Kd.R_ne HO174.out BK171.out (by decide)))
     have n3_ := Aside0.mk (Kd.R_after (ok := (fun _ => True)) (by (with_reducible repeat (first | apply Kd.R_alloc | apply Kd.R_drewN | apply Kd.R_drew)); exact HO180.out) hg hat)
     have n4_ := Aside0.mk (hb)
     have n5_ := Aside0.mk (ho)
     clear BK169
     clear BK170
     clear BK171
     clear HO180
     clear HB
     clear HO174
     have BK169 := n0_
     have BK170 := n1_
     have BK171 := n2_
     have HO180 := n3_
     have HB := n4_
     have HO177 := n5_
     clear n0_ n1_ n2_ n3_ n4_ n5_
     clear ho hb hg hat
     refine hK.out _ _ ⟨(blk_cell BK169.out 0).trans rfl, (blk_cell BK169.out 1).trans rfl, (blk_cell BK170.out 0).trans rfl, (blk_cell BK170.out 1).trans rfl⟩ (fun hHeld => ?_)
     clear hK K
     refine norm_ (a' := ?_) ?_ ?_
     rotate_left
     ·show Act.put _ (some 10) _ = _
      simp only [Act.put, sQ0, sQ1, sQ2, i64_w]
      rfl
     exact norm_ (by simp only [putAll, Act.put, sQ0, sQ1, sQ2]) (hCont (v173, v176, v179) _ ⟨hHeld, (by (with_reducible repeat (first | apply Kd.R_alloc | apply Kd.R_drewN | apply Kd.R_drew)); exact HO177.out), (by (with_reducible repeat (first | apply Kd.R_alloc | apply Kd.R_drewN | apply Kd.R_drew)); exact Kd.R_mono HO180.out (fun _ hk => hk.2)), (by (with_reducible repeat (first | refine blk_drewN ?_ _ | refine blk_drew ?_ | refine blk_alloc ?_ _)); exact BK169.out), (by (with_reducible repeat (first | refine blk_drewN ?_ _ | refine blk_drew ?_ | refine blk_alloc ?_ _)); exact BK170.out), (by (with_reducible repeat (first | refine blk_drewN ?_ _ | refine blk_drew ?_ | refine blk_alloc ?_ _)); exact BK171.out), (by repeat (first | (with_reducible first | exact HB.out | apply below_alloc | apply pw_below_drewN | apply below_drew1 | refine below_set ?_ GE169.out | refine below_set ?_ GE170.out | refine below_set ?_ GE171.out) | exact HB.out))⟩)
   rintro ⟨v173, v176, v179⟩ w15 ⟨hS_, h0_, h1_, h2_, h3_, h4_, h5_⟩
   have n0_ : Aside0 (Kd.R k127 127 w15 w.heap.size (fun k_ => some k_ ≠ (v179 : Value).ownBlock) v176 y175) := ⟨h0_⟩
   have n1_ : Aside0 (Kd.R k127 127 w15 w.heap.size (fun k_ => some k_ ≠ (v176 : Value).ownBlock) v179 y178) := ⟨h1_⟩
   have n2_ : Aside0 (w15.heap[gb169]? = some (.cells #[.int .i64 a0_0, .slice A0_1 l0_1.length c0_1] 43 (0, 0))) := ⟨h2_⟩
   have n3_ : Aside0 (w15.heap[gb170]? = some (.cells #[.int .i64 a1_0, .int .i64 a1_1] 36 (0, 0))) := ⟨h3_⟩
   have n4_ : Aside0 (w15.heap[gb171]? = some (.cells #[.int .i64 0, .slice none 0 0] 43 (0, 0))) := ⟨h4_⟩
   have n5_ : Aside0 (Below w.heap.size w w15) := ⟨h5_⟩
   clear BK169
   clear BK170
   clear BK171
   clear HB
   clear h0_ h1_ h2_ h3_ h4_ h5_
   have HO177 := n0_
   have HO180 := n1_
   have BK169 := n2_
   have BK170 := n3_
   have BK171 := n4_
   have HB := n5_
   clear n0_ n1_ n2_ n3_ n4_ n5_
   have hHeld : w15.cell? ⟨gb169, 0, none⟩ = some (.int .i64 a0_0) ∧ w15.cell? ⟨gb169, 1, none⟩ = some (.slice A0_1 l0_1.length c0_1) ∧ w15.cell? ⟨gb170, 0, none⟩ = some (.int .i64 a1_0) ∧ w15.cell? ⟨gb170, 1, none⟩ = some (.int .i64 a1_1) := hS_
   obtain ⟨Ao17, co17, eo17⟩ := Kd.R_slice HO180.out
   (first | subst eo17 | (injection eo17 with f1_ f2_ f3_; have f4_ := f1_.symm; have f5_ := f3_.symm; clear f1_ f2_ f3_; subst f4_; subst f5_))
   refine norm_ (a' := ?_) ?_ ?_
   rotate_left
   ·simp only [putAll, Act.put, sQ0, sQ1, sQ2]
    rfl
   refine one_ (i := 8) (N := some 15) #[tt,tt,tt,tt,tt,tt,tt,tt,tt,ff,ff] rfl rfl (one_of HT_.out (by kernel_rfl)) (by decide) (fun K hK => ?_)
   refine Kd.R_append_rows_step k127 (w0 := w) w.heap.size (by rfl) (.tmp 10) (.tmp 14) 41 127 (.agg #[(.int .i64 0), (.int .i64 0), (.int .i64 0), (.int .i64 0)]) 32 rfl Try.underlying41 info127 rfl (by decide) (by omega) v176 y175 y178 _ _ _ (fun k_ => some k_ ≠ (.slice Ao17 y178.length co17 : Value).ownBlock) (fun _ => False) rfl rfl ?aO ?aR (fun _ _ h => h) (fun _ h => h.elim) ?aF ?aB ?aS ?aL ?_
   (case aR => repeat (first | exact (Kd.R_reads' HO180.out).2.2 | (with_reducible refine Kd.C_alloc ?_ _) | (with_reducible refine Kd.C_drewN ?_ _) | (with_reducible refine Kd.C_drew ?_)))
   (case aB => exact (by repeat (first | (with_reducible first | exact HB.out | apply below_alloc | apply pw_below_drewN | apply below_drew1 | refine below_set ?_ GE169.out | refine below_set ?_ GE170.out | refine below_set ?_ GE171.out) | exact HB.out)))
   (case aF => exact (fun k_ hk => Kd.fresh' (Kd.R_lt (by (with_reducible repeat (first | apply Kd.R_alloc | apply Kd.R_drewN | apply Kd.R_drew)); exact HO180.out)) k_ hk))
   (case aO => exact (by (with_reducible repeat (first | apply Kd.R_alloc | apply Kd.R_drewN | apply Kd.R_drew)); exact HO177.out))
   (case aS => exact (below_size (by repeat (first | (with_reducible first | exact HB.out | apply below_alloc | apply pw_below_drewN | apply below_drew1 | refine below_set ?_ GE169.out | refine below_set ?_ GE170.out | refine below_set ?_ GE171.out) | exact HB.out))))
   (case aL => have := LMc5.out; omega)
   intro v182 w16 ho hb hg hat
   rw [← Ny181.out] at ho
   have n0_ := Aside0.mk (blk_grown (g := gb169) (o := .cells #[.int .i64 a0_0, .slice A0_1 l0_1.length c0_1] 43 (0, 0)) (by (with_reducible repeat (first | refine blk_drewN ?_ _ | refine blk_drew ?_ | refine blk_alloc ?_ _)); exact BK169.out) hg (Kd.R_ne HO177.out BK169.out (by decide)))
   have n1_ := Aside0.mk (blk_grown (g := gb170) (o := .cells #[.int .i64 a1_0, .int .i64 a1_1] 36 (0, 0)) (by (with_reducible repeat (first | refine blk_drewN ?_ _ | refine blk_drew ?_ | refine blk_alloc ?_ _)); exact BK170.out) hg (Kd.R_ne HO177.out BK170.out (by decide)))
   have n2_ := Aside0.mk (blk_grown (g := gb171) (o := .cells #[.int .i64 0, .slice none 0 0] 43 (0, 0)) (by (with_reducible repeat (first | refine blk_drewN ?_ _ | refine blk_drew ?_ | refine blk_alloc ?_ _)); exact BK171.out) hg (Kd.R_ne HO177.out BK171.out (by decide)))
   have n3_ := Aside0.mk (Kd.R_after (ok := (fun _ => True)) (by (with_reducible repeat (first | apply Kd.R_alloc | apply Kd.R_drewN | apply Kd.R_drew)); exact Kd.R_mono HO180.out (fun _ hk => ⟨trivial, hk⟩)) hg hat)
   have n4_ := Aside0.mk (hb)
   have n5_ := Aside0.mk (ho)
   clear BK169
   clear BK170
   clear BK171
   clear HO180
   clear HB
   clear HO177
   have BK169 := n0_
   have BK170 := n1_
   have BK171 := n2_
   have HO180 := n3_
   have HB := n4_
   have HO183 := n5_
   clear n0_ n1_ n2_ n3_ n4_ n5_
   clear ho hb hg hat
   obtain ⟨Ao18, co18, eo18⟩ := Kd.R_slice HO183.out
   (first | subst eo18 | (injection eo18 with f1_ f2_ f3_; have f4_ := f1_.symm; have f5_ := f3_.symm; clear f1_ f2_ f3_; subst f4_; subst f5_))
   refine hK.out _ _ ⟨(blk_cell BK169.out 0).trans rfl, (blk_cell BK169.out 1).trans rfl, (blk_cell BK170.out 0).trans rfl, (blk_cell BK170.out 1).trans rfl⟩ (fun hHeld => ?_)
   clear hK K
   refine norm_ (a' := ?_) ?_ ?_
   rotate_left
   ·show Act.put _ (some 15) _ = _
    simp only [Act.put, sQ0, sQ1, sQ2, i64_w]
    rfl
   refine pure_ (i := 9) (N := some 16) (v := ?_) (a' := ?_) #[tt,tt,tt,tt,tt,tt,tt,tt,tt,tt,ff] rfl rfl (any_of HT_.out (by kernel_rfl)) (fun _ _ _ h => h) (Or.inl ⟨by rfl, ?_⟩) ?_ ?_
   rotate_left
   ·intro w'
    go_simp
    with_reducible rfl
   rotate_left
   ·simp only [Act.put, sQ0, sQ1, sQ2, i64_w]
    rfl
   refine last_ (i := 10) (N := none) #[tt,tt,tt,tt,tt,tt,tt,tt,tt,tt,tt] rfl rfl (one_of HT_.out (by kernel_rfl)) (by decide) (fun K hK => ?_)
   have hs19 : w16.cell? ⟨gb169, 1, none⟩ = some (.slice A0_1 l0_1.length c0_1) := (blk_cell BK169.out 1).trans rfl
   have hfs19 := blk_frozen BK169.out 1
   have hns19_1 := NB170_169.out
   have hns19_2 := NB171_169.out
   have hms19_1 := NB169_170.out
   have hms19_2 := NB169_171.out
   refine skip_ (w1 := ?_) (by rfl) rfl ?_ ?_
   rotate_left
   ·go_simp
    rfl
   refine hK.out _ _ ?_
   clear hK K
   refine done_ (done_of HT_.out (by kernel_rfl)) ?_
   have hnb20 := NB169_170.out
   have hnc20 := NB170_169.out
   have hnb21 := NB169_171.out
   have hnc21 := NB171_169.out
   have hcz22_0 : w16.cell? ⟨gb169, 0, none⟩ = some (.int .i64 a0_0) := (blk_cell BK169.out 0).trans rfl
   have hcz22_1 : w16.cell? ⟨gb169, 1, none⟩ = some (.slice A0_1 l0_1.length c0_1) := (blk_cell BK169.out 1).trans rfl
   have hfz22_0 := blk_frozen BK169.out 0
   have hfz22_1 := blk_frozen BK169.out 1
   have hnb23 := NB171_170.out
   have hnc23 := NB170_171.out
   have hcz24_0 : w16.cell? ⟨gb171, 0, none⟩ = some (.int .i64 0) := (blk_cell BK171.out 0).trans rfl
   have hcz24_1 : w16.cell? ⟨gb171, 1, none⟩ = some (.slice none 0 0) := (blk_cell BK171.out 1).trans rfl
   have hfz24_0 := blk_frozen BK171.out 0
   have hfz24_1 := blk_frozen BK171.out 1
   try go_wp2
   refine bodyPost_ret (results_cell_row rfl _ _ gb171 43 #[.int .i64 a0_0, .slice Ao18 y181.length co18] (0, 0) _ rfl (by (with_reducible repeat (first | refine blk_drewN ?_ _ | refine blk_drew ?_ | refine blk_alloc ?_ _)); refine blk_put (cs := #[.int .i64 a0_0, .slice none 0 0]) ?_ 1 _ rfl; (with_reducible repeat (first | refine blk_drewN ?_ _ | refine blk_drew ?_ | refine blk_alloc ?_ _)); refine blk_put (cs := #[.int .i64 0, .slice none 0 0]) ?_ 0 _ rfl; (with_reducible repeat (first | refine blk_drewN ?_ _ | refine blk_drew ?_ | refine blk_alloc ?_ _)); refine blk_far ?_ NB171_169.out _; (with_reducible repeat (first | refine blk_drewN ?_ _ | refine blk_drew ?_ | refine blk_alloc ?_ _)); exact BK171.out) Try.underlying43 rfl (by kernel_rfl)) rfl ?_
   exact ⟨_, by first | rfl | (simp [errW_none, errW_some] <;> rfl) | (simp [*, errW_none, errW_some] <;> rfl), by (with_reducible repeat (first | apply Kd.R_alloc | apply Kd.R_drewN | apply Kd.R_drew)); exact Kd.R_mono (Kd.R_far (p := ⟨gb171, 1, none⟩) (Kd.R_far (p := ⟨gb171, 0, none⟩) (Kd.R_far (p := ⟨gb169, 1, none⟩) (Kd.R_types (Kd.R_types HO183.out BK169.out (by decide)) BK171.out (by decide)) (fun _ hk => hk.1.2) (.slice Ao18 y181.length co18)) (fun _ hk => hk.2) (.int .i64 a0_0)) (fun _ hk => hk.2) (.slice Ao18 y181.length co18)) (fun _ hk => trivial), by repeat (first | (with_reducible first | exact HB.out | apply below_alloc | apply pw_below_drewN | apply below_drew1 | refine below_set ?_ GE169.out | refine below_set ?_ GE170.out | refine below_set ?_ GE171.out) | exact HB.out)⟩
  ·rw [if_neg c5] at H
   exact absurd H (by simp)
 ·rw [if_neg c4] at H
  exact absurd H (by simp)
end Go.Proofs.Ythniclbmpeklmaa.KJf
end
section
namespace Go.Proofs.Ythniclbmpeklmaa.KJf
open Go.RowKit Go.Proofs.YthniclbmpeklmaaW.PrintWords Go.Proofs.Ythniclbmpeklmaa.Ju
open Go.Proofs.YthniclbmpeklmaaW.PrintWords renaming Ev → PE
set_option linter.unusedVariables false
set_option linter.unusedSimpArgs false
theorem Ev.self {α : Type} {g : Nat → Option α} {r : α} (h : ∀ k, g (k + 1) = some r) : PE g r := PE.step h (PE.now r)
theorem w64 {i n : Nat} (h : i < n) (hn : n ≤ 1000000) : wrap64 ((i : Int) + 1) = ((i + 1 : Nat) : Int) := by unfold wrap64; omega
abbrev S127.h (x : S127) : Au.Ha := (x.f0.f0, x.f0.f1)
def isH (h : Au.Ha) (x : S127) : Bool := x.f0.f0 == h.1 && x.f0.f1 == h.2
theorem isH_iff {h : Au.Ha} {x : S127} : isH h x = true ↔ x.h = h := by
 unfold isH
 rw [Bool.and_eq_true, beq_iff_eq, beq_iff_eq]
 exact ⟨fun ⟨a, b⟩ => Prod.ext a b, fun e => ⟨congrArg Prod.fst e, congrArg Prod.snd e⟩⟩
def findR (l : List S127) (h : Au.Ha) : Int := match l.findIdx? (isH h) with | some i => (i : Int) | none => -1
def statR (l : List S127) (h : Au.Ha) : Int := match l.find? (isH h) with | some x => x.f1 | none => 0
def dlR (l : List S127) (h : Au.Ha) : Int := match l.find? (isH h) with | some x => x.f2 | none => 0
def turnR (l : List S127) (h : Au.Ha) (s : Int) : List S127 := l.map fun x => if x.h = h then { x with f1 := s } else x
def freeR (l : List S127) (h : Au.Ha) : Bool := l.all fun x => !(x.f0.f0 == h.1 && (x.f1 == 1 || decide (x.f0.f1 ≥ h.2)))
def armR (l : List S127) (h : Au.Ha) (d : Int) : List S127 := l ++ [⟨⟨h.1, h.2⟩, 1, d⟩]
theorem rd_at {l : List S127} {i : Nat} (h : i < l.length) : rd_T127 l (i : Int) = l[i] := by
 show l.getD i z127 = _
 rw [List.getD_eq_getElem?_getD, List.getElem?_eq_getElem h]
 rfl
theorem find_at {l : List S127} {h : Au.Ha} {i : Nat} (hf : l.findIdx? (isH h) = some i) : ∃ hi : i < l.length, isH h l[i] = true ∧ l.find? (isH h) = some l[i] ∧ ∀ j (hj : j < i), isH h (l[j]'(by omega)) = false := by
 obtain ⟨hi, h1, h2⟩ := List.findIdx?_eq_some_iff_getElem.1 hf
 refine ⟨hi, h1, ?_, fun j hj => by simpa using h2 j hj⟩
 rw [List.find?_eq_some_iff_getElem]
 exact ⟨h1, i, hi, rfl, fun j hj => by simpa using h2 j hj⟩
theorem find_no {l : List S127} {h : Au.Ha} (hf : l.findIdx? (isH h) = none) : l.find? (isH h) = none ∧ ∀ x ∈ l, isH h x = false := by
 have h1 := List.findIdx?_eq_none_iff.1 hf
 exact ⟨List.find?_eq_none.2 fun x hx => by simp [h1 x hx], h1⟩
theorem nodup_at {l : List S127} (hd : (l.map S127.h).Nodup) {i j : Nat} (hi : i < l.length) (hj : j < l.length) (he : l[i].h = l[j].h) : i = j := by
 have h := List.pairwise_iff_getElem.1 hd
 rcases Nat.lt_trichotomy i j with q | q | q
 ·exact absurd (by rw [List.getElem_map, List.getElem_map]; exact he) (h i j (by simpa using hi) (by simpa using hj) q)
 ·exact q
 ·exact absurd (by rw [List.getElem_map, List.getElem_map]; exact he.symm) (h j i (by simpa using hj) (by simpa using hi) q)
theorem find_is (l : List S127) (hn : l.length ≤ 1000000) (c : Int) (h : Au.Ha) : PE (fun k => knellref12_Find.f k c l h.1 h.2) (findR l h) := by
 have go : ∀ d i, i + d = l.length → (∀ j (hj : j < i) (hl : j < l.length), isH h l[j] = false) → PE (fun k => knellref12_Find.l0 k (i : Int) c l h.1 h.2) (findR l h) := by
  intro d
  induction d with
  | zero =>
   intro i hd hp
   have hno : l.findIdx? (isH h) = none := List.findIdx?_eq_none_iff.2 fun x hx => by
    obtain ⟨j, hj, rfl⟩ := List.getElem_of_mem hx
    exact hp j (by omega) hj
   refine Ev.self fun k => ?_
   rw [knellref12_Find.l0, if_neg (by omega)]
   unfold findR
   rw [hno]
  | succ d ih =>
   intro i hd hp
   have hi : i < l.length := by omega
   cases hq : isH h l[i] with
   | true =>
    have hyes : l.findIdx? (isH h) = some i := List.findIdx?_eq_some_iff_getElem.2 ⟨hi, hq, fun j hj => by simpa using hp j hj (by omega)⟩
    refine Ev.self fun k => ?_
    rw [knellref12_Find.l0, if_pos (by omega), if_pos (by omega), rd_at hi, if_pos (show (l[i].f0.f0 == h.1 && l[i].f0.f1 == h.2) = true from hq)]
    unfold findR
    rw [hyes]
   | false =>
    refine PE.step (fun k => ?_) (ih (i + 1) (by omega) (fun j hj hl => by
     rcases Nat.lt_or_ge j i with z | z
     ·exact hp j z hl
     ·obtain rfl : j = i := by omega
      exact hq))
    rw [knellref12_Find.l0, if_pos (by omega), if_pos (by omega), rd_at hi, if_neg (by rw [show (l[i].f0.f0 == h.1 && l[i].f0.f1 == h.2) = isH h l[i] from rfl, hq]; simp), w64 hi hn]
 exact go l.length 0 (by omega) (fun j hj => by omega)
theorem stat_is (l : List S127) (hn : l.length ≤ 1000000) (c : Int) (h : Au.Ha) : PE (fun k => knellref12_Status.f k c l h.1 h.2) (statR l h) := by
 unfold knellref12_Status.f
 refine PE.bind (find_is l hn c h) (PE.congr (fun k => ?_) (PE.now _))
 unfold findR statR
 cases hf : l.findIdx? (isH h) with
 | none => rw [(find_no hf).1]; simp
 | some i =>
  obtain ⟨hi, h1, h2, _⟩ := find_at hf
  rw [h2]
  simp only
  rw [if_neg (by omega), if_pos (by omega), if_pos (by omega), rd_at hi]
theorem turn_is (l : List S127) (hn : l.length ≤ 1000000) (c : Int) (h : Au.Ha) (s : Int) (hd : (l.map S127.h).Nodup) (hx : ∃ x ∈ l, x.h = h) : PE (fun k => knellref12_turn.f k c l h.1 h.2 s) (c, turnR l h s) := by
 unfold knellref12_turn.f
 simp only [Option.bind_some, List.nil_append, List.length_nil, Nat.zero_add]
 refine PE.congr (fun k => by rw [if_pos (by omega)]) (PE.bind (find_is l hn c h) (PE.congr (fun k => ?_) (PE.now _)))
 unfold findR
 cases hf : l.findIdx? (isH h) with
 | none =>
  obtain ⟨x, hx, hh⟩ := hx
  have := (find_no hf).2 x hx
  rw [isH_iff.2 hh] at this
  cases this
 | some i =>
  obtain ⟨hi, h1, _, _⟩ := find_at hf
  simp only
  rw [if_pos (by omega), if_pos (by omega), rd_at hi, Int.toNat_natCast]
  congr 2
  unfold turnR
  apply List.ext_getElem
  ·rw [List.length_set, List.length_map]
  intro j h3 h4
  rw [List.getElem_map, List.getElem_set]
  by_cases e : i = j
  ·subst e
   rw [if_pos rfl, if_pos (isH_iff.1 h1)]
  ·rw [if_neg e, if_neg]
   intro q
   have hj : j < l.length := by rw [List.length_set] at h3; exact h3
   have hii := isH_iff.1 h1
   exact e (nodup_at hd hi hj (hii.trans q.symm))
theorem free_is (l : List S127) (hn : l.length ≤ 1000000) (c : Int) (h : Au.Ha) : PE (fun k => knellref12_free.f k c l h.1 h.2) (freeR l h) := by
 have go : ∀ d i, i + d = l.length → (∀ j (hj : j < i) (hl : j < l.length), (l[j].f0.f0 == h.1 && (l[j].f1 == 1 || decide (l[j].f0.f1 ≥ h.2))) = false) → PE (fun k => knellref12_free.l0 k (i : Int) c l h.1 h.2) (freeR l h) := by
  intro d
  induction d with
  | zero =>
   intro i hd hp
   have hall : freeR l h = true := by
    unfold freeR
    rw [List.all_eq_true]
    intro x hx
    obtain ⟨j, hj, rfl⟩ := List.getElem_of_mem hx
    rw [hp j (by omega) hj]; rfl
   refine Ev.self fun k => ?_
   rw [knellref12_free.l0, if_neg (by omega), hall]
  | succ d ih =>
   intro i hd hp
   have hi : i < l.length := by omega
   have no : (l[i].f0.f0 == h.1 && (l[i].f1 == 1 || decide (l[i].f0.f1 ≥ h.2))) = true → freeR l h = false := fun q => by
    unfold freeR
    rw [List.all_eq_false]
    exact ⟨l[i], List.getElem_mem hi, by rw [q]; simp⟩
   have next : (l[i].f0.f0 == h.1 && (l[i].f1 == 1 || decide (l[i].f0.f1 ≥ h.2))) = false → PE (fun k => knellref12_free.l0 k (wrap64 ((i : Int) + 1)) c l h.1 h.2) (freeR l h) := fun q => by
    rw [w64 hi hn]
    exact ih (i + 1) (by omega) (fun j hj hl => by
     rcases Nat.lt_or_ge j i with z | z
     ·exact hp j z hl
     ·obtain rfl : j = i := by omega
      exact q)
   by_cases e1 : l[i].f0.f0 = h.1
   ·by_cases e2 : l[i].f1 = 1
    ·rw [no (by simp [e1, e2])]
     exact Ev.self fun k => by rw [knellref12_free.l0, if_pos (by omega), if_pos (by omega), rd_at hi, if_pos e1, if_pos e2]
    ·by_cases e3 : l[i].f0.f1 ≥ h.2
     ·rw [no (by simp [e1, e3])]
      exact Ev.self fun k => by rw [knellref12_free.l0, if_pos (by omega), if_pos (by omega), rd_at hi, if_pos e1, if_neg e2, if_pos e3]
     ·exact PE.step (fun k => by rw [knellref12_free.l0, if_pos (by omega), if_pos (by omega), rd_at hi, if_pos e1, if_neg e2, if_neg e3]) (next (by simp [e2, e3]))
   ·exact PE.step (fun k => by rw [knellref12_free.l0, if_pos (by omega), if_pos (by omega), rd_at hi, if_neg e1]) (next (by simp [e1]))
 exact go l.length 0 (by omega) (fun j hj => by omega)
theorem arm_is (l : List S127) (hn : l.length ≤ 1000000) (c : Int) (h : Au.Ha) (d : Int) : knellref12_arm.f c l h.1 h.2 d = some (c, armR l h d) := by
 unfold knellref12_arm.f armR
 simp only [Option.bind_some, List.nil_append, List.length_nil, Nat.zero_add, List.length_singleton]
 rw [if_pos (by omega), if_pos (by omega)]
structure Rm where
 clk : Int
 L : List S127
def rpF (m : Rm) (e : Au.Ev) : Rm × Int :=
 if e.op = 1 then (if e.er = 0 then (if freeR m.L e.new = true then ({ m with L := armR m.L e.new e.t }, 0) else (m, 6)) else (m, 0))
 else if e.op = 2 then (if (statR m.L e.h == 1) = e.y then (if e.y = true then ({ m with L := turnR m.L e.h 3 }, 0) else (m, 0)) else (m, 6))
 else if e.op = 3 then (if e.er = 4 then (if statR m.L e.h = 1 then (m, 6) else (m, 0)) else if e.er = 0 then (if statR m.L e.h = 1 ∧ e.nn = e.hn ∧ e.ng = wrap64 (e.hg + 1) then ({ m with L := armR (turnR m.L e.h 4) e.new e.t }, 0) else (m, 6)) else (m, 0))
 else (if e.er = 4 then (if statR m.L e.h = 1 then (m, 6) else (m, 0)) else if e.er = 0 then (if statR m.L e.h = 1 then (m, 0) else (m, 6)) else (m, 0))
def rdoF (m : Rm) (e : Au.Ev) : Rm × Int :=
 if rightJ e = false ∨ e.k = 2 ∨ e.k = 5 then (m, 8)
 else if e.k = 1 then (if e.t = wrap64 (m.clk + 1) then ({ m with clk := e.t }, 0) else (m, 6))
 else if e.k = 4 then (if statR m.L e.h = 1 ∧ dlR m.L e.h ≤ e.t ∧ e.t ≤ m.clk then ({ m with L := turnR m.L e.h 2 }, 0) else (m, 6))
 else rpF m e
structure Sim (m : Md) (r : Rm) : Prop where
 clk : m.clk = r.clk
 nd : (r.L.map S127.h).Nodup
 on : ∀ x ∈ r.L, ∃ d, m.fat x.h = some (x.f1, d) ∧ (x.f1 = 1 → d = x.f2)
 back : ∀ h, m.fat h ≠ none → ∃ x ∈ r.L, x.h = h
 lst : ∀ n g, m.lst n = some g → m.fat (n, g) ≠ none
 inv : MInv m
theorem Sim0 : Sim md0 ⟨0, []⟩ := ⟨rfl, by simp, fun x hx => (by cases hx), fun h q => absurd rfl q, fun n g q => (by cases q), MInv0⟩
theorem find_mem {l : List S127} {x : S127} (hd : (l.map S127.h).Nodup) (hx : x ∈ l) : l.find? (isH x.h) = some x := by
 cases hf : l.findIdx? (isH x.h) with
 | none =>
  have := (find_no hf).2 x hx
  rw [isH_iff.2 rfl] at this; cases this
 | some i =>
  obtain ⟨hi, h1, h2, _⟩ := find_at hf
  obtain ⟨j, hj, rfl⟩ := List.getElem_of_mem hx
  have hii := isH_iff.1 h1
  obtain rfl := nodup_at hd hi hj hii
  exact h2
theorem Sim.st {m : Md} {r : Rm} (h : Sim m r) (x : Au.Ha) : m.st x = statR r.L x ∧ (m.st x = 1 → m.dl x = dlR r.L x ∧ ∃ y ∈ r.L, y.h = x) := by
 unfold Md.st Md.dl statR dlR
 cases hf : m.fat x with
 | none =>
  have hno : r.L.find? (isH x) = none := List.find?_eq_none.2 fun y hy q => by
   obtain ⟨d, h1, _⟩ := h.on y hy
   rw [isH_iff.1 q, hf] at h1; cases h1
  rw [hno]
  exact ⟨rfl, fun q => by simp at q⟩
 | some v =>
  obtain ⟨y, hy, rfl⟩ := h.back x (by rw [hf]; simp)
  obtain ⟨d, h1, h2⟩ := h.on y hy
  rw [find_mem h.nd hy]
  rw [hf] at h1
  obtain rfl := Option.some.inj h1
  exact ⟨rfl, fun q => ⟨h2 q, y, hy, rfl⟩⟩
theorem turn_h (l : List S127) (h : Au.Ha) (s : Int) : (turnR l h s).map S127.h = l.map S127.h := by
 unfold turnR
 rw [List.map_map]
 apply List.map_congr_left
 intro x _
 simp only [Function.comp]
 split <;> rfl
theorem Sim.turn {m : Md} {r : Rm} (h : Sim m r) {x : Au.Ha} {s : Int} (hs : s ≠ 1) (hx : m.fat x ≠ none) : Sim (m.end_ x s) { r with L := turnR r.L x s } := by
 refine ⟨h.clk, by show ((turnR r.L x s).map S127.h).Nodup; rw [turn_h]; exact h.nd, fun y hy => ?_, fun z hz => ?_, fun n g hg => ?_, h.inv.end_ hx hs⟩
 ·obtain ⟨z, hz, rfl⟩ := List.mem_map.1 hy
  by_cases e : z.h = x
  ·rw [if_pos e, end_fat]
   show ∃ d, (if z.h = x then some (s, 0) else m.fat z.h) = some (s, d) ∧ _
   rw [if_pos e]
   exact ⟨0, rfl, fun q => absurd q hs⟩
  ·rw [if_neg e, end_fat, if_neg e]
   exact h.on z hz
 ·have hz' : m.fat z ≠ none := by
   rw [end_fat] at hz
   by_cases e : z = x
   ·rw [e]; exact hx
   ·rw [if_neg e] at hz; exact hz
  obtain ⟨y, hy, rfl⟩ := h.back z hz'
  refine ⟨_, List.mem_map.2 ⟨y, hy, rfl⟩, ?_⟩
  split <;> rfl
 ·have := h.lst n g hg
  rw [end_fat]
  split
  ·simp
  ·exact this
theorem Sim.arm {m : Md} {r : Rm} (h : Sim m r) {x : Au.Ha} {d : Int} (hx : m.fat x = none) (hi : MInv (m.arm x d)) : Sim (m.arm x d) { r with L := armR r.L x d } := by
 have hno : ∀ y ∈ r.L, y.h ≠ x := fun y hy e => by
  obtain ⟨d', h1, _⟩ := h.on y hy
  rw [e, hx] at h1; cases h1
 refine ⟨h.clk, ?_, fun y hy => ?_, fun z hz => ?_, fun n g hg => ?_, hi⟩
 ·show ((armR r.L x d).map S127.h).Nodup
  unfold armR
  rw [List.map_append, List.nodup_append]
  refine ⟨h.nd, by simp, fun a ha b hb => ?_⟩
  obtain ⟨y, hy, rfl⟩ := List.mem_map.1 ha
  obtain rfl := List.mem_singleton.1 hb
  exact hno y hy
 ·rcases List.mem_append.1 hy with hy | hy
  ·rw [arm_fat, if_neg (hno y hy)]; exact h.on y hy
  ·obtain rfl := List.mem_singleton.1 hy
   rw [arm_fat, if_pos rfl]
   exact ⟨d, rfl, fun _ => rfl⟩
 ·rw [arm_fat] at hz
  by_cases e : z = x
  ·exact ⟨⟨⟨x.1, x.2⟩, 1, d⟩, List.mem_append.2 (.inr (List.mem_singleton.2 rfl)), e.symm⟩
  ·rw [if_neg e] at hz
   obtain ⟨y, hy, he⟩ := h.back z hz
   exact ⟨y, List.mem_append.2 (.inl hy), he⟩
 ·rw [arm_lst] at hg
  rw [arm_fat]
  split
  ·simp
  ·rename_i hne
   by_cases e : n = x.1
   ·rw [if_pos e] at hg
    have := Option.some.inj hg
    exact absurd (Prod.ext e this.symm) hne
   ·rw [if_neg e] at hg; exact h.lst n g hg
theorem Sim.free {m : Md} {r : Rm} (h : Sim m r) (x : Au.Ha) : m.startOk x = freeR r.L x := by
 rw [Bool.eq_iff_iff]
 unfold freeR
 rw [List.all_eq_true]
 constructor
 ·intro hs y hy
  obtain ⟨a, b, c⟩ := h.inv.start hs
  obtain ⟨d, h1, _⟩ := h.on y hy
  obtain ⟨g, hg, hle⟩ := h.inv.top y.h (by rw [h1]; simp)
  by_cases e : y.f0.f0 = x.1
  ·have hlt := a g (by rw [← e]; exact hg)
   have hst : y.f1 ≠ 1 := fun q => b y.h e (by unfold Md.st; rw [h1]; exact q)
   simp [e, hst]
   have : y.f0.f1 ≤ g := hle
   omega
  ·simp [e]
 ·intro hs
  unfold Md.startOk
  cases hl : m.lst x.1 with
  | none => rfl
  | some g =>
   obtain ⟨y, hy, he⟩ := h.back (x.1, g) (h.lst x.1 g hl)
   have e1 : y.f0.f0 = x.1 := congrArg Prod.fst he
   have e2 : y.f0.f1 = g := congrArg Prod.snd he
   have := hs y hy
   simp [e1, e2] at this
   obtain ⟨d, h1, _⟩ := h.on y hy
   have hst : m.st (x.1, g) = y.f1 := by unfold Md.st; rw [← he, h1]; rfl
   simp only [Option.isSome_some, Bool.not_true, Bool.false_or, Option.getD_some, Bool.and_eq_true, bne_iff_ne, decide_eq_true_eq]
   rw [hst]
   exact this
theorem Sim.step {m : Md} {r : Rm} (h : Sim m r) (e : Au.Ev) (hw : (Lit.int .i64 e.hg).wf = true) : (doF m e).2 = (rdoF r e).2 ∧ Sim (doF m e).1 (rdoF r e).1 := by
 obtain ⟨hst, hdl⟩ := h.st e.h
 have hck := h.clk
 cases hr : rightJ e with
 | false =>
  have hL : doF m e = (m, 8) := by simp [doF, pointF, hr]
  have hR : rdoF r e = (r, 8) := by simp [rdoF, rpF, hr]
  rw [hL, hR]
  exact ⟨rfl, h⟩
 | true =>
  rcases right_k hr with hk | hk | hk | hk | hk
  ·by_cases ht : e.t = wrap64 (r.clk + 1)
   ·have hL : doF m e = ({ m with clk := e.t }, 0) := by simp [doF, pointF, hr, hk, hck, ht]
    have hR : rdoF r e = ({ r with clk := e.t }, 0) := by simp [rdoF, rpF, hr, hk, hck, ht]
    rw [hL, hR]
    exact ⟨rfl, ⟨rfl, h.nd, h.on, h.back, h.lst, ⟨h.inv.top, h.inv.arm⟩⟩⟩
   ·have hL : doF m e = (m, 6) := by simp [doF, pointF, hr, hk, hck, ht]
    have hR : rdoF r e = (r, 6) := by simp [rdoF, rpF, hr, hk, hck, ht]
    rw [hL, hR]
    exact ⟨rfl, h⟩
  ·have hL : doF m e = (m, 8) := by simp [doF, pointF, hr, hk]
   have hR : rdoF r e = (r, 8) := by simp [rdoF, rpF, hr, hk]
   rw [hL, hR]
   exact ⟨rfl, h⟩
  ·obtain ⟨o1, o4, hng, _⟩ := right_op hr hk
   by_cases op1 : e.op = 1
   ·by_cases e0 : e.er = 0
    ·have hfr := h.free e.new
     cases hf : freeR r.L e.new with
     | true =>
      rw [hf] at hfr
      obtain ⟨a, b, c⟩ := h.inv.start hfr
      have hL : doF m e = (m.arm e.new e.t, 0) := by simp [doF, pointF, hr, hk, op1, e0, hfr, hf]
      have hR : rdoF r e = ({ r with L := armR r.L e.new e.t }, 0) := by simp [rdoF, rpF, hr, hk, op1, e0, hfr, hf]
      rw [hL, hR]
      exact ⟨rfl, h.arm c (h.inv.arm_ a b)⟩
     | false =>
      rw [hf] at hfr
      have hL : doF m e = (m, 6) := by simp [doF, pointF, hr, hk, op1, e0, hfr, hf]
      have hR : rdoF r e = (r, 6) := by simp [rdoF, rpF, hr, hk, op1, e0, hfr, hf]
      rw [hL, hR]
      exact ⟨rfl, h⟩
    ·have hL : doF m e = (m, 0) := by simp [doF, pointF, hr, hk, op1, e0]
     have hR : rdoF r e = (r, 0) := by simp [rdoF, rpF, hr, hk, op1, e0]
     rw [hL, hR]
     exact ⟨rfl, h⟩
   by_cases ha : statR r.L e.h = 1
   ·have hm1 : m.st e.h = 1 := hst.trans ha
    by_cases op2 : e.op = 2
    ·cases hy : e.y with
     | true =>
      have hL : doF m e = (m.end_ e.h 3, 0) := by simp [doF, pointF, hr, hk, op2, hy, ha, hm1]
      have hR : rdoF r e = ({ r with L := turnR r.L e.h 3 }, 0) := by simp [rdoF, rpF, hr, hk, op2, hy, ha, hm1]
      rw [hL, hR]
      exact ⟨rfl, h.turn (by omega) (st_fat hm1)⟩
     | false =>
      have hL : doF m e = (m, 6) := by simp [doF, pointF, hr, hk, op2, hy, ha, hm1]
      have hR : rdoF r e = (r, 6) := by simp [rdoF, rpF, hr, hk, op2, hy, ha, hm1]
      rw [hL, hR]
      exact ⟨rfl, h⟩
    by_cases e4 : e.er = 4
    ·by_cases op3 : e.op = 3
     ·have hL : doF m e = (m, 6) := by simp [doF, pointF, hr, hk, op3, e4, ha, hm1]
      have hR : rdoF r e = (r, 6) := by simp [rdoF, rpF, hr, hk, op3, e4, ha, hm1]
      rw [hL, hR]
      exact ⟨rfl, h⟩
     ·have op4 : e.op = 4 := by omega
      have hL : doF m e = (m, 6) := by simp [doF, pointF, hr, hk, op4, e4, ha, hm1]
      have hR : rdoF r e = (r, 6) := by simp [rdoF, rpF, hr, hk, op4, e4, ha, hm1]
      rw [hL, hR]
      exact ⟨rfl, h⟩
    by_cases e0 : e.er = 0
    ·by_cases op3 : e.op = 3
     ·by_cases hc : e.nn = e.hn ∧ e.ng = wrap64 (e.hg + 1)
      ·have hre := h.inv.rearm (d := e.t) hm1 (y := e.new) hc.1 (wrap_next hw hng hc.2)
       have h1 := h.turn (s := 4) (by omega) (st_fat hm1)
       have hne : e.new ≠ e.h := fun q => st_fat hm1 (by rw [← q]; exact hre.1)
       have hc1 := hc.1
       have hc2 := hc.2
       have hL : doF m e = ((m.end_ e.h 4).arm e.new e.t, 0) := by unfold doF pointF; rw [if_neg (by rw [hr]; simp), if_neg (by omega), if_neg (by omega), if_pos hk, if_neg (by omega), if_neg (by omega), if_neg (by omega), if_neg op1, if_neg (by omega), if_pos ⟨hm1, hc⟩]
       have hR : rdoF r e = ({ r with L := armR (turnR r.L e.h 4) e.new e.t }, 0) := by unfold rdoF rpF; rw [if_neg (by rw [hr]; simp; omega), if_neg (by omega), if_neg (by omega), if_neg op1, if_neg op2, if_pos op3, if_neg e4, if_pos e0, if_pos ⟨ha, hc⟩]
       rw [hL, hR]
       exact ⟨rfl, h1.arm (by rw [end_fat, if_neg hne]; exact hre.1) hre.2⟩
      ·have hL : doF m e = (m, 6) := by unfold doF pointF; rw [if_neg (by rw [hr]; simp), if_neg (by omega), if_neg (by omega), if_pos hk, if_neg (by omega), if_neg (by omega), if_neg (by omega), if_neg op1, if_neg (by omega), if_neg (fun q => hc q.2)]
       have hR : rdoF r e = (r, 6) := by unfold rdoF rpF; rw [if_neg (by rw [hr]; simp; omega), if_neg (by omega), if_neg (by omega), if_neg op1, if_neg op2, if_pos op3, if_neg e4, if_pos e0, if_neg (fun q => hc q.2)]
       rw [hL, hR]
       exact ⟨rfl, h⟩
     ·have op4 : e.op = 4 := by omega
      have hL : doF m e = (m, 0) := by simp [doF, pointF, hr, hk, op4, e0, ha, hm1]
      have hR : rdoF r e = (r, 0) := by simp [rdoF, rpF, hr, hk, op4, e0, ha, hm1]
      rw [hL, hR]
      exact ⟨rfl, h⟩
    ·have hL : doF m e = (m, 0) := by simp [doF, pointF, hr, hk, op1, op2, e4, e0]
     have hR : rdoF r e = (r, 0) := by simp [rdoF, rpF, hr, hk, op1, op2, e4, e0]
     rw [hL, hR]
     exact ⟨rfl, h⟩
   ·have hm1 : ¬ m.st e.h = 1 := fun q => ha (hst.symm.trans q)
    by_cases op2 : e.op = 2
    ·cases hy : e.y with
     | true =>
      have hL : doF m e = (m, 6) := by simp [doF, pointF, hr, hk, op2, hy, ha, hm1]
      have hR : rdoF r e = (r, 6) := by simp [rdoF, rpF, hr, hk, op2, hy, ha, hm1]
      rw [hL, hR]
      exact ⟨rfl, h⟩
     | false =>
      have hL : doF m e = (m, 0) := by simp [doF, pointF, hr, hk, op2, hy, ha, hm1]
      have hR : rdoF r e = (r, 0) := by simp [rdoF, rpF, hr, hk, op2, hy, ha, hm1]
      rw [hL, hR]
      exact ⟨rfl, h⟩
    by_cases e4 : e.er = 4
    ·by_cases op3 : e.op = 3
     ·have hL : doF m e = (m, 0) := by simp [doF, pointF, hr, hk, op3, e4, ha, hm1]
      have hR : rdoF r e = (r, 0) := by simp [rdoF, rpF, hr, hk, op3, e4, ha, hm1]
      rw [hL, hR]
      exact ⟨rfl, h⟩
     ·have op4 : e.op = 4 := by omega
      have hL : doF m e = (m, 0) := by simp [doF, pointF, hr, hk, op4, e4, ha, hm1]
      have hR : rdoF r e = (r, 0) := by simp [rdoF, rpF, hr, hk, op4, e4, ha, hm1]
      rw [hL, hR]
      exact ⟨rfl, h⟩
    by_cases e0 : e.er = 0
    ·by_cases op3 : e.op = 3
     ·have hL : doF m e = (m, 6) := by simp [doF, pointF, hr, hk, op3, e0, ha, hm1]
      have hR : rdoF r e = (r, 6) := by simp [rdoF, rpF, hr, hk, op3, e0, ha, hm1]
      rw [hL, hR]
      exact ⟨rfl, h⟩
     ·have op4 : e.op = 4 := by omega
      have hL : doF m e = (m, 6) := by simp [doF, pointF, hr, hk, op4, e0, ha, hm1]
      have hR : rdoF r e = (r, 6) := by simp [rdoF, rpF, hr, hk, op4, e0, ha, hm1]
      rw [hL, hR]
      exact ⟨rfl, h⟩
    ·have hL : doF m e = (m, 0) := by simp [doF, pointF, hr, hk, op1, op2, e4, e0]
     have hR : rdoF r e = (r, 0) := by simp [rdoF, rpF, hr, hk, op1, op2, e4, e0]
     rw [hL, hR]
     exact ⟨rfl, h⟩
  ·by_cases ha : statR r.L e.h = 1
   ·have hm1 : m.st e.h = 1 := hst.trans ha
    have hdd := (hdl hm1).1
    by_cases hc : dlR r.L e.h ≤ e.t ∧ e.t ≤ r.clk
    ·have hL : doF m e = (m.end_ e.h 2, 0) := by simp [doF, pointF, hr, hk, hck, ha, hm1, hdd, hc]
     have hR : rdoF r e = ({ r with L := turnR r.L e.h 2 }, 0) := by simp [rdoF, rpF, hr, hk, hck, ha, hm1, hdd, hc]
     rw [hL, hR]
     exact ⟨rfl, h.turn (by omega) (st_fat hm1)⟩
    ·have hL : doF m e = (m, 6) := by unfold doF; rw [if_neg (by rw [hr]; simp), if_neg (by omega), if_pos hk, if_neg (by rw [hdd, hck]; exact fun q => hc q.2)]
     have hR : rdoF r e = (r, 6) := by unfold rdoF; rw [if_neg (by rw [hr]; simp; omega), if_neg (by omega), if_pos hk, if_neg (fun q => hc q.2)]
     rw [hL, hR]
     exact ⟨rfl, h⟩
   ·have hm1 : ¬ m.st e.h = 1 := fun q => ha (hst.symm.trans q)
    have hL : doF m e = (m, 6) := by simp [doF, pointF, hr, hk, ha, hm1]
    have hR : rdoF r e = (r, 6) := by simp [rdoF, rpF, hr, hk, ha, hm1]
    rw [hL, hR]
    exact ⟨rfl, h⟩
  ·have hL : doF m e = (m, 8) := by simp [doF, pointF, hr, hk]
   have hR : rdoF r e = (r, 8) := by simp [rdoF, rpF, hr, hk]
   rw [hL, hR]
   exact ⟨rfl, h⟩
end Go.Proofs.Ythniclbmpeklmaa.KJf
end
section
namespace Go.Proofs.Ythniclbmpeklmaa.KJf
open Go.RowKit Go.Proofs.YthniclbmpeklmaaW.PrintWords Go.Proofs.Ythniclbmpeklmaa.Ju Go.Proofs.Ythniclbmpeklmaa.Mo
open Go.Proofs.YthniclbmpeklmaaW.PrintWords renaming Ev → PE
set_option linter.unusedVariables false
set_option linter.unusedSimpArgs false
def tmOf (x : S127) : Tm := ((x.f0.f0, x.f0.f1), x.f2)
def befR (y x : S127) : Bool := if y.f0.f0 = x.f0.f0 then decide (y.f0.f1 < x.f0.f1) else decide (y.f0.f0 < x.f0.f0)
def insR (x : S127) : List S127 → List S127
 | [] => [x]
 | y :: r => if befR y x = true then y :: insR x r else x :: y :: r
theorem ins_is (x : S127) : ∀ (R : List S127) (i : Nat), i ≤ R.length → (∀ q (hq : q < R.length), q < i → befR R[q] x = true) → (∀ hi : i < R.length, befR R[i] x = false) → insR x R = R.take i ++ [x] ++ R.drop i
 | [], i, h, _, _ => by
  obtain rfl : i = 0 := by simpa using h
  rfl
 | y :: r, 0, _, _, h2 => by
  have q := h2 (by simp)
  simp only [List.getElem_cons_zero] at q
  simp [insR, q]
 | y :: r, i + 1, h, h1, h2 => by
  have q := h1 0 (by simp) (by omega)
  simp only [List.getElem_cons_zero] at q
  have hr := ins_is x r i (by simpa using h) (fun q hq hi => by have := h1 (q + 1) (by simpa using hq) (by omega); simpa using this) (fun hi => by have := h2 (by simpa using hi); simpa using this)
  simp [insR, q, hr]
theorem before_is (y x : S127) : knellref12_before.f y.f0.f0 y.f0.f1 x.f0.f0 x.f0.f1 = some (befR y x) := by
 unfold knellref12_before.f befR
 split <;> rfl
theorem rd127 {l : List S127} {i : Nat} (h : i < l.length) : rd_T127 l (i : Int) = l[i] := by unfold rd_T127; simp [List.getD, h]
theorem arm_in (c : Int) (L R : List S127) (hL : L.length ≤ 1000000) (hR : R.length ≤ 1000000) {j : Nat} (hj : j < L.length) {r : List S127} (hr : PE (fun k => knellref12_Armeds.l0 k (insR L[j] R) ((j + 1 : Nat) : Int) c L) r) : PE (fun k => knellref12_Armeds.l1 k R (j : Int) 0 c L) r := by
 have go : ∀ d i, i + d = R.length → (∀ q (hq : q < R.length), q < i → befR R[q] L[j] = true) → PE (fun k => knellref12_Armeds.l1 k R (j : Int) (i : Int) c L) r := by
  intro d
  induction d with
  | zero =>
   intro i hd hb
   obtain rfl : i = R.length := by omega
   have e := ins_is L[j] R R.length (Nat.le_refl _) hb (fun q => by omega)
   refine PE.step (fun k => ?_) hr
   rw [knellref12_Armeds.l1, if_neg (by omega)]
   simp only [Option.bind_some]
   rw [if_pos (by omega), if_pos (by omega), if_pos (by simp; omega), if_pos (by omega), if_pos (by omega), if_pos (by simp; omega), if_pos (by simp; omega), rd127 hj, w64 hj hL, e]
   simp
  | succ d ih =>
   intro i hd hb
   have hi : i < R.length := by omega
   cases q : befR R[i] L[j] with
   | true =>
    refine PE.step (f := fun k => knellref12_Armeds.l1 k R (j : Int) ((i + 1 : Nat) : Int) c L) (fun k => ?_) (ih (i + 1) (by omega) (fun p hp hpi => ?_))
    ·rw [knellref12_Armeds.l1, if_pos (by omega), if_pos (by omega), if_pos (by omega), if_pos (by omega), rd127 hi, rd127 hj, before_is, q]
     simp only [Option.bind_some, if_true]
     rw [w64 hi hR]
    ·by_cases e : p = i
     ·subst e; exact q
     ·exact hb p hp (by omega)
   | false =>
    have e := ins_is L[j] R i (by omega) hb (fun _ => q)
    refine PE.step (fun k => ?_) hr
    rw [knellref12_Armeds.l1, if_pos (by omega), if_pos (by omega), if_pos (by omega), if_pos (by omega), rd127 hi, rd127 hj, before_is, q]
    simp only [Option.bind_some]
    rw [if_neg (by decide), if_pos (by omega), if_pos (by simp; omega), if_pos (by simp; omega), if_pos (by simp; omega), w64 hj hL, e]
    simp
 exact go R.length 0 (by omega) (fun q hq h => by omega)
def armStep (R : List S127) (x : S127) : List S127 := if x.f1 = 1 then insR x R else R
def armedsR (L : List S127) : List S127 := L.foldl armStep []
theorem ins_len (x : S127) : ∀ R : List S127, (insR x R).length = R.length + 1
 | [] => rfl
 | y :: r => by unfold insR; split <;> simp [ins_len x r]
theorem ins_mem (x z : S127) : ∀ R : List S127, z ∈ insR x R ↔ z = x ∨ z ∈ R
 | [] => by simp [insR]
 | y :: r => by
  unfold insR
  split
  ·rw [List.mem_cons, ins_mem x z r, List.mem_cons]
   constructor <;> (rintro (q | q | q) <;> simp [q])
  ·simp
theorem armeds_take (L : List S127) (j : Nat) (hj : j < L.length) : armedsR (L.take (j + 1)) = armStep (armedsR (L.take j)) L[j] := by
 unfold armedsR
 rw [List.take_succ_eq_append_getElem hj, List.foldl_append]
 rfl
theorem armeds_le (L : List S127) : (armedsR L).length ≤ L.length := by
 have : ∀ (L R : List S127), (L.foldl armStep R).length ≤ R.length + L.length := by
  intro L
  induction L with
  | nil => intro R; simp
  | cons x l ih =>
   intro R
   rw [List.foldl_cons]
   refine Nat.le_trans (ih _) ?_
   unfold armStep
   split
   ·rw [ins_len, List.length_cons]; omega
   ·rw [List.length_cons]; omega
 simpa [armedsR] using this L []
theorem armeds_is (c : Int) (L : List S127) (hL : L.length ≤ 1000000) : PE (fun k => knellref12_Armeds.f k c L) (armedsR L) := by
 have go : ∀ d i, i + d = L.length → PE (fun k => knellref12_Armeds.l0 k (armedsR (L.take i)) (i : Int) c L) (armedsR L) := by
  intro d
  induction d with
  | zero =>
   intro i hd
   obtain rfl : i = L.length := by omega
   exact Ev.self fun k => by rw [knellref12_Armeds.l0, if_neg (by omega), List.take_length]
  | succ d ih =>
   intro i hd
   have hi : i < L.length := by omega
   have hih := ih (i + 1) (by omega)
   rw [armeds_take L i hi] at hih
   by_cases q : L[i].f1 = 1
   ·rw [show armStep (armedsR (L.take i)) L[i] = insR L[i] (armedsR (L.take i)) from if_pos q] at hih
    refine PE.step (f := fun k => knellref12_Armeds.l1 k (armedsR (L.take i)) (i : Int) 0 c L) (fun k => ?_) (arm_in c L _ hL ?_ hi hih)
    ·rw [knellref12_Armeds.l0, if_pos (by omega), if_pos (by omega), rd127 hi, if_pos q]
    ·have := armeds_le (L.take i); rw [List.length_take] at this; omega
   ·rw [show armStep (armedsR (L.take i)) L[i] = armedsR (L.take i) from if_neg q] at hih
    refine PE.step (fun k => ?_) hih
    rw [knellref12_Armeds.l0, if_pos (by omega), if_pos (by omega), rd127 hi, if_neg q, w64 hi hL]
 exact go L.length 0 (by omega)
theorem armeds_mem (L : List S127) (z : S127) : z ∈ armedsR L ↔ z ∈ L ∧ z.f1 = 1 := by
 have : ∀ (L R : List S127), z ∈ L.foldl armStep R ↔ z ∈ R ∨ (z ∈ L ∧ z.f1 = 1) := by
  intro L
  induction L with
  | nil => intro R; simp
  | cons x l ih =>
   intro R
   rw [List.foldl_cons, ih, List.mem_cons]
   unfold armStep
   by_cases q : x.f1 = 1
   ·rw [if_pos q, ins_mem]
    constructor
    ·rintro ((h | h) | h)
     ·subst h; exact .inr ⟨.inl rfl, q⟩
     ·exact .inl h
     ·exact .inr ⟨.inr h.1, h.2⟩
    ·rintro (h | ⟨h | h, h2⟩)
     ·exact .inl (.inr h)
     ·exact .inl (.inl h)
     ·exact .inr ⟨h, h2⟩
   ·rw [if_neg q]
    constructor
    ·rintro (h | h)
     ·exact .inl h
     ·exact .inr ⟨.inr h.1, h.2⟩
    ·rintro (h | ⟨h | h, h2⟩)
     ·exact .inl h
     ·subst h; exact absurd h2 q
     ·exact .inr ⟨h, h2⟩
 simpa [armedsR] using this L []
theorem bef_iff {y x : S127} (hne : y.h ≠ x.h) : (befR y x = true → ltT (tmOf y) (tmOf x)) ∧ (befR y x = false → ltT (tmOf x) (tmOf y)) := by
 have hn : ¬ (y.f0.f0 = x.f0.f0 ∧ y.f0.f1 = x.f0.f1) := fun q => hne (Prod.ext q.1 q.2)
 unfold befR ltT tmOf
 split <;> simp <;> omega
theorem ins_sorted (x : S127) : ∀ R : List S127, (∀ y ∈ R, y.h ≠ x.h) → R.Pairwise (fun a b => ltT (tmOf a) (tmOf b)) → (insR x R).Pairwise (fun a b => ltT (tmOf a) (tmOf b))
 | [], _, _ => by simp [insR]
 | y :: r, hn, hs => by
  rw [List.pairwise_cons] at hs
  unfold insR
  split
  ·rename_i q
   rw [List.pairwise_cons]
   refine ⟨fun z hz => ?_, ins_sorted x r (fun z hz => hn z (by simp [hz])) hs.2⟩
   rcases (ins_mem x z r).1 hz with rfl | hz
   ·exact (bef_iff (hn y (by simp))).1 q
   ·exact hs.1 z hz
  ·rename_i q
   have q : befR y x = false := by simpa using q
   have hxy := (bef_iff (hn y (by simp))).2 q
   rw [List.pairwise_cons, List.pairwise_cons]
   refine ⟨fun z hz => ?_, hs⟩
   rcases List.mem_cons.1 hz with rfl | hz
   ·exact hxy
   ·have := hs.1 z hz; unfold ltT at *; omega
theorem armeds_sorted (L : List S127) (hd : (L.map S127.h).Nodup) : (armedsR L).Pairwise (fun a b => ltT (tmOf a) (tmOf b)) := by
 have : ∀ (l p : List S127), p ++ l = L → (armedsR p).Pairwise (fun a b => ltT (tmOf a) (tmOf b)) → (l.foldl armStep (armedsR p)).Pairwise (fun a b => ltT (tmOf a) (tmOf b)) := by
  intro l
  induction l with
  | nil => intro p _ h; exact h
  | cons x l ih =>
   intro p hp h
   have e : armStep (armedsR p) x = armedsR (p ++ [x]) := by unfold armedsR; rw [List.foldl_append]; rfl
   rw [List.foldl_cons, e]
   refine ih (p ++ [x]) (by simpa using hp) ?_
   rw [← e]
   unfold armStep
   split
   ·refine ins_sorted x _ (fun y hy => ?_) h
    have hm := ((armeds_mem p y).1 hy).1
    rw [← hp, List.map_append, List.nodup_append] at hd
    exact hd.2.2 _ (List.mem_map.2 ⟨y, hm, rfl⟩) _ (List.mem_map.2 ⟨x, by simp, rfl⟩)
   ·exact h
 exact this L [] (by simp) (by simp [armedsR])
theorem armeds_arm {m : Md} {r : Rm} (h : Sim m r) (hw : ∀ x ∈ r.L, wfH x.h) : ArmedIs m ((armedsR r.L).map tmOf) := by
 refine ⟨fun i j hi hj hij => ?_, fun x hx => ?_, fun x d hx => ?_⟩
 ·have q := List.pairwise_iff_getElem.1 (armeds_sorted r.L h.nd) i j (by simpa using hi) (by simpa using hj) hij
  simpa using q
 ·obtain ⟨y, hy, rfl⟩ := List.mem_map.1 hx
  exact hw y ((armeds_mem _ _).1 hy).1
 ·rw [List.mem_map]
  constructor
  ·rintro ⟨y, hy, e⟩
   obtain ⟨h1, h2⟩ := (armeds_mem _ _).1 hy
   obtain ⟨d', h3, h4⟩ := h.on y h1
   have e1 : y.h = x := congrArg Prod.fst e
   have e2 : y.f2 = d := congrArg Prod.snd e
   rw [e1, h2, h4 h2, e2] at h3
   exact h3
  ·intro q
   obtain ⟨y, hy, e⟩ := h.back x (by rw [q]; simp)
   obtain ⟨d', h3, h4⟩ := h.on y hy
   rw [e, q] at h3
   have e1 : (1 : Int) = y.f1 := congrArg Prod.fst (Option.some.inj h3)
   have e2 : d = d' := congrArg Prod.snd (Option.some.inj h3)
   exact ⟨y, (armeds_mem _ _).2 ⟨hy, e1.symm⟩, Prod.ext e (by rw [e2]; exact (h4 e1.symm).symm)⟩
def leastS (a : Int) (x : S127) : Int := if x.f1 = 1 then (if a < 0 then x.f2 else if x.f2 < a then x.f2 else a) else a
theorem least_is (c : Int) (L : List S127) (hL : L.length ≤ 1000000) : PE (fun k => knellref12_Least.f k c L) (L.foldl leastS (-1)) := by
 have go : ∀ d i, i + d = L.length → PE (fun k => knellref12_Least.l0 k ((L.take i).foldl leastS (-1)) (i : Int) c L) (L.foldl leastS (-1)) := by
  intro d
  induction d with
  | zero =>
   intro i hd
   obtain rfl : i = L.length := by omega
   exact Ev.self fun k => by rw [knellref12_Least.l0, if_neg (by omega), List.take_length]
  | succ d ih =>
   intro i hd
   have hi : i < L.length := by omega
   have hih := ih (i + 1) (by omega)
   rw [List.take_succ_eq_append_getElem hi, List.foldl_append] at hih
   refine PE.step (fun k => ?_) hih
   rw [knellref12_Least.l0, if_pos (by omega), if_pos (by omega), rd127 hi, w64 hi hL]
   show _ = knellref12_Least.l0 k (leastS _ L[i]) _ c L
   unfold leastS
   split
   ·split
    ·rfl
    ·split <;> rfl
   ·rfl
 exact go L.length 0 (by omega)
theorem least_arm (L : List S127) (hn : ∀ x ∈ L, x.f1 = 1 → 0 ≤ x.f2) : LeastIs ((armedsR L).map tmOf) (L.foldl leastS (-1)) := by
 have key : ∀ (l p : List S127), p ++ l = L → (((∀ x ∈ p, x.f1 ≠ 1) ∧ p.foldl leastS (-1) = -1) ∨ ((∃ x ∈ p, x.f1 = 1 ∧ x.f2 = p.foldl leastS (-1)) ∧ ∀ x ∈ p, x.f1 = 1 → p.foldl leastS (-1) ≤ x.f2)) → (((∀ x ∈ L, x.f1 ≠ 1) ∧ L.foldl leastS (-1) = -1) ∨ ((∃ x ∈ L, x.f1 = 1 ∧ x.f2 = L.foldl leastS (-1)) ∧ ∀ x ∈ L, x.f1 = 1 → L.foldl leastS (-1) ≤ x.f2)) := by
  intro l
  induction l with
  | nil => intro p hp h; rw [List.append_nil] at hp; rw [← hp]; exact h
  | cons x l ih =>
   intro p hp h
   refine ih (p ++ [x]) (by simpa using hp) ?_
   have hx : x ∈ L := by rw [← hp]; simp
   have hnp : ∀ y ∈ p, y.f1 = 1 → 0 ≤ y.f2 := fun y hy => hn y (by rw [← hp]; simp [hy])
   rw [List.foldl_append]
   show ((∀ y ∈ p ++ [x], y.f1 ≠ 1) ∧ leastS (p.foldl leastS (-1)) x = -1) ∨ ((∃ y ∈ p ++ [x], y.f1 = 1 ∧ y.f2 = leastS (p.foldl leastS (-1)) x) ∧ ∀ y ∈ p ++ [x], y.f1 = 1 → leastS (p.foldl leastS (-1)) x ≤ y.f2)
   generalize p.foldl leastS (-1) = a at h
   unfold leastS
   by_cases q : x.f1 = 1
   ·rw [if_pos q]
    right
    have hx2 := hn x hx q
    rcases h with ⟨h1, rfl⟩ | ⟨⟨y, hy, h1, h2⟩, h3⟩
    ·rw [if_pos (by decide)]
     refine ⟨⟨x, by simp, q, rfl⟩, fun z hz hz1 => ?_⟩
     rcases List.mem_append.1 hz with hz | hz
     ·exact absurd hz1 (h1 z hz)
     ·rw [List.mem_singleton.1 hz]; exact Int.le_refl _
    ·have ha : 0 ≤ a := by rw [← h2]; exact hnp y hy h1
     rw [if_neg (by omega)]
     by_cases c : x.f2 < a
     ·rw [if_pos c]
      refine ⟨⟨x, by simp, q, rfl⟩, fun z hz hz1 => ?_⟩
      rcases List.mem_append.1 hz with hz | hz
      ·have := h3 z hz hz1; omega
      ·rw [List.mem_singleton.1 hz]; exact Int.le_refl _
     ·rw [if_neg c]
      refine ⟨⟨y, by simp [hy], h1, h2⟩, fun z hz hz1 => ?_⟩
      rcases List.mem_append.1 hz with hz | hz
      ·exact h3 z hz hz1
      ·rw [List.mem_singleton.1 hz]; omega
   ·rw [if_neg q]
    rcases h with ⟨h1, rfl⟩ | ⟨⟨y, hy, h1, h2⟩, h3⟩
    ·refine .inl ⟨fun z hz => ?_, rfl⟩
     rcases List.mem_append.1 hz with hz | hz
     ·exact h1 z hz
     ·rw [List.mem_singleton.1 hz]; exact q
    ·refine .inr ⟨⟨y, by simp [hy], h1, h2⟩, fun z hz hz1 => ?_⟩
     rcases List.mem_append.1 hz with hz | hz
     ·exact h3 z hz hz1
     ·rw [List.mem_singleton.1 hz] at hz1; exact absurd hz1 q
 rcases key L [] (by simp) (.inl ⟨fun x hx => (by cases hx), rfl⟩) with ⟨h1, h2⟩ | ⟨⟨x, hx, h1, h2⟩, h3⟩
 ·refine .inl ⟨?_, h2⟩
  cases q : armedsR L with
  | nil => rfl
  | cons y r => exact absurd ((armeds_mem L y).1 (by rw [q]; simp)).2 (h1 y ((armeds_mem L y).1 (by rw [q]; simp)).1)
 ·refine .inr ⟨⟨tmOf x, List.mem_map.2 ⟨x, (armeds_mem _ _).2 ⟨hx, h1⟩, rfl⟩, h2⟩, fun z hz => ?_⟩
  obtain ⟨y, hy, rfl⟩ := List.mem_map.1 hz
  exact h3 y ((armeds_mem _ _).1 hy).1 ((armeds_mem _ _).1 hy).2
end Go.Proofs.Ythniclbmpeklmaa.KJf
end
section
namespace Go.Proofs.Ythniclbmpeklmaa.KJf
open Go.RowKit Go.Proofs.YthniclbmpeklmaaW.PrintWords Go.Proofs.YthniclbmpeklmaaW.PrintLast Go.Proofs.YthniclbmpeklmaaW.PrintMore
attribute [local go_sem] max2_int min2_int max_two min_two max_three min_three max_four min_four   -- for this text's walks alone
set_option linter.unusedVariables false
set_option linter.unusedSimpArgs false
def knelllaw12_Of.f (a0_0 : Int) (a0_1 : Int) : Option (Int × Int) := some (a0_0, a0_1)
set_option maxHeartbeats 8000000 in
set_option maxRecDepth 100000 in
theorem knelllaw12_Of.calls (a0_0 : Int) (a0_1 : Int) (r1 : Int) (r2 : Int) (w : World) (h : knelllaw12_Of.f a0_0 a0_1 = some (r1, r2)) :
  Calls Try.prog 34 #[.agg #[.int .i64 a0_0, .int .i64 a0_1]] w fun e w' => e = .returned (.agg #[.int .i64 r1, .int .i64 r2]) ∧ Below w.heap.size w w' := by
 have hu36 := Try.underlying36
 have hu34 := Try.underlying34
 have HB := Aside0.mk (Below.refl w.heap.size w)
 have H : (some (a0_0, a0_1)) = some (r1, r2) := h
 clear h
 simp only [Option.some.injEq, Prod.mk.injEq] at H
 obtain ⟨rfl, rfl⟩ := H
 go_enter Try.func34, Try.ntmps34
 go_wp2_with (first | ((with_reducible refine gate_dst (N := 1) rfl ?_); refine box_event ?hg (N := 1) ?hd (cs := #[.int .i64 a0_0, .int .i64 a0_1]) (t := 36) ?hr ?_; (case hd => rfl); (case hg => rfl); (case hr => first | (go_simp; done) | (go_simp; rfl)); intro gb217 hg w2 hbox hb; have n0_ := Aside0.mk (below_step (by repeat (first | (with_reducible first | exact HB.out | apply below_alloc | apply pw_below_drewN | apply below_drew1) | exact HB.out)) hb); have n1_ := Aside0.mk (hbox); have n2_ := Aside0.mk ((by rw [hg]; exact (below_size (by repeat (first | (with_reducible first | exact HB.out | apply below_alloc | apply pw_below_drewN | apply below_drew1) | exact HB.out))) : w.heap.size ≤ gb217)); have n3_ := Aside0.mk ((by rw [hg]; exact (below_size (by repeat (first | (with_reducible first | exact HB.out | apply below_alloc | apply pw_below_drewN | apply below_drew1) | exact HB.out))) : w.heap.size ≤ gb217)); clear HB; have HB := n0_; have BK217 := n1_; have GW217 := n2_; have GE217 := n3_; clear n0_ n1_ n2_ n3_; clear hb hbox hg) | ((with_reducible refine gate_dst (N := 2) rfl ?_); refine box_event ?hg (N := 2) ?hd (cs := #[.int .i64 0, .int .i64 0]) (t := 34) ?hr ?_; (case hd => rfl); (case hg => rfl); (case hr => first | (go_simp; done) | (go_simp; rfl)); intro gb218 hg w3 hbox hb; have n0_ := Aside0.mk (blk_below (g := gb217) (o := .cells #[.int .i64 a0_0, .int .i64 a0_1] 36 (0, 0)) (by (with_reducible repeat (first | refine blk_drewN ?_ _ | refine blk_drew ?_ | refine blk_alloc ?_ _)); exact BK217.out) hb); have n1_ := Aside0.mk (below_step (by repeat (first | (with_reducible first | exact HB.out | apply below_alloc | apply pw_below_drewN | apply below_drew1 | refine below_set ?_ GE217.out) | exact HB.out)) hb); have n2_ := Aside0.mk (hbox); have n3_ := Aside0.mk ((by rw [hg]; exact (below_size (by repeat (first | (with_reducible first | exact HB.out | apply below_alloc | apply pw_below_drewN | apply below_drew1 | refine below_set ?_ GE217.out) | exact HB.out))) : w.heap.size ≤ gb218)); have n4_ := Aside0.mk ((by rw [hg]; exact (below_size (by repeat (first | (with_reducible first | exact HB.out | apply below_alloc | apply pw_below_drewN | apply below_drew1 | refine below_set ?_ GE217.out) | exact HB.out))) : w.heap.size ≤ gb218)); have n5_ := Aside0.mk ((by rw [hg]; exact Nat.ne_of_lt (blk_lt (g := gb217) (o := .cells #[.int .i64 a0_0, .int .i64 a0_1] 36 (0, 0)) (by (with_reducible repeat (first | refine blk_drewN ?_ _ | refine blk_drew ?_ | refine blk_alloc ?_ _)); exact BK217.out)) : gb217 ≠ gb218)); have n6_ := Aside0.mk ((by rw [hg]; exact Nat.ne_of_gt (blk_lt (g := gb217) (o := .cells #[.int .i64 a0_0, .int .i64 a0_1] 36 (0, 0)) (by (with_reducible repeat (first | refine blk_drewN ?_ _ | refine blk_drew ?_ | refine blk_alloc ?_ _)); exact BK217.out)) : gb218 ≠ gb217)); clear BK217; clear HB; have BK217 := n0_; have HB := n1_; have BK218 := n2_; have GW218 := n3_; have GE218 := n4_; have NB217_218 := n5_; have NB218_217 := n6_; clear n0_ n1_ n2_ n3_ n4_ n5_ n6_; clear hb hbox hg; have hnb4 := NB217_218.out; have hnc4 := NB218_217.out; have hcz5_0 : w3.cell? ⟨gb217, 0, none⟩ = some (.int .i64 a0_0) := (blk_cell BK217.out 0).trans rfl; have hcz5_1 : w3.cell? ⟨gb217, 1, none⟩ = some (.int .i64 a0_1) := (blk_cell BK217.out 1).trans rfl; have hfz5_0 := blk_frozen BK217.out 0; have hfz5_1 := blk_frozen BK217.out 1; have hcz6_0 : w3.cell? ⟨gb218, 0, none⟩ = some (.int .i64 0) := (blk_cell BK218.out 0).trans rfl; have hcz6_1 : w3.cell? ⟨gb218, 1, none⟩ = some (.int .i64 0) := (blk_cell BK218.out 1).trans rfl; have hfz6_0 := blk_frozen BK218.out 0; have hfz6_1 := blk_frozen BK218.out 1))
 refine bodyPost_ret (results_cell_row rfl _ _ gb218 34 #[.int .i64 a0_0, .int .i64 a0_1] (0, 0) _ rfl (by (with_reducible repeat (first | refine blk_drewN ?_ _ | refine blk_drew ?_ | refine blk_alloc ?_ _)); refine blk_put (cs := #[.int .i64 a0_0, .int .i64 0]) ?_ 1 _ rfl; (with_reducible repeat (first | refine blk_drewN ?_ _ | refine blk_drew ?_ | refine blk_alloc ?_ _)); refine blk_put (cs := #[.int .i64 0, .int .i64 0]) ?_ 0 _ rfl; (with_reducible repeat (first | refine blk_drewN ?_ _ | refine blk_drew ?_ | refine blk_alloc ?_ _)); exact BK218.out) Try.underlying34 rfl (by kernel_rfl)) rfl ?_
 exact ⟨by first | rfl | (simp [errW_none, errW_some] <;> rfl) | (simp [*, errW_none, errW_some] <;> rfl), by repeat (first | (with_reducible first | exact HB.out | apply below_alloc | apply pw_below_drewN | apply below_drew1 | refine below_set ?_ GE217.out | refine below_set ?_ GE218.out) | exact HB.out)⟩
end Go.Proofs.Ythniclbmpeklmaa.KJf
end
section
namespace Go.Proofs.Ythniclbmpeklmaa.Mo
open Go.RowKit Go.Maps Go.Proofs.YthniclbmpeklmaaW.PrintWords Go.Proofs.YthniclbmpeklmaaW.PrintLast Go.Proofs.YthniclbmpeklmaaW.PrintMore Go.Proofs.Ythniclbmpeklmaa.Mp Go.Proofs.Ythniclbmpeklmaa.Ju
open Go.Proofs.Ythniclbmpeklmaa.Au (Ha RowIs flat_get flat_len haV lawH types_ne evA Ev Fr)
set_option linter.unusedVariables false
set_option linter.unusedSimpArgs false
theorem of_ha (x y : Int) (W : World) : Calls Try.prog 34 #[.agg #[.int .i64 x, .int .i64 y]] W fun r w' => r = .returned (.agg #[.int .i64 x, .int .i64 y]) ∧ Below W.heap.size W w' :=
 KJf.knelllaw12_Of.calls _ _ _ _ W rfl
theorem eqTm (d : Nat) (w : World) (x0 y0 : Int) (x1 y1 : Int) (x2 y2 : Int) :
  (Op.equalIn (d + 3) 81 (.agg #[.int .i64 x0, .int .i64 x1, .int .i64 x2]) (.agg #[.int .i64 y0, .int .i64 y1, .int .i64 y2])).run Try.prog w = .ok ((x0 == y0 && (x1 == y1)) && (x2 == y2)) w := by
 refine eqA_of Try.underlying81 (by kernel_rfl) ?_
 refine eqf_cons (by rfl) (by go_simp) (by go_simp) (Ev.eqHa (d + 0) w _ _ _ _) ?_
 exact eqf_last (by rfl) (by go_simp; rfl) (by go_simp; rfl) (by go_simp)
attribute [local go_sem high] eqTm
end Go.Proofs.Ythniclbmpeklmaa.Mo
end
