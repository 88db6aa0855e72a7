/- What is proved: a part of the way to the statement LinkWordsCardSaid: KLkx2, KLkx3, Kw, PureLk, Bq, Br, LwP, Sh, LwT, KLwx0, KLwx2; no conditions. Put together by a program of this session (claimv.py). -/
import Derived.Test.YthljanmfanppdaaDoorProg
import Derived.WalkKit
import Derived.KernelRfl
import Derived.Deep.LoopGhost
import Derived.Deep.QuietTactic
import Derived.BigQuiet
import Derived.Laws.CopyOwn
import Derived.Laws.Rows
import Derived.Lib.ItoaMem
import Derived.Lib.ItoaLen
import Derived.Shelf.Strconv.Itoa0
import Derived.Shelf.Strconv.Itoa1
import Derived.Shelf.LaysM
import Derived.Shelf.Strconv.Itoa2
import Derived.Shelf.Strconv.Itoa3
import Derived.Test.YthljanmfanppdaaDoorRows
import Derived.Lib.AppendIntMem
import Derived.Lib.LaidTab
import Derived.Below
import Derived.Deep.Draws
import Derived.Deep.AppendLies
import Derived.Maps.AppendAt
import Derived.OwnWalk
import Derived.Laws.BytesArg
import Derived.Laws.MakeOwn
import Derived.Laws.OwnMore
import Derived.Deep.OwnRows
import Derived.Tactics
import Derived.Lib.ConvBytes
import Derived.Laws.Slices
import Derived.RowKit3
import Derived.WideLaws
import Derived.Deep.DeepCutAuto
import Derived.Deep.CutBlock
import Derived.Deep.RegionHeld3
import Derived.Lib.AppendStr
import Derived.ArgAppend
import Derived.Laws.IdiomCopy
import Derived.OrdersHeld
import Derived.Laws.BitsLemmas
import Derived.RowKit
import Derived.Test.YthljanmfanppdaaDoorMlw2
section
set_option maxHeartbeats 8000000
set_option maxRecDepth 100000
namespace Go.Proofs.YthljanmfanppdaaDoor.KLk
open Go.RowKit Go.Proofs.YthljanmfanppdaaDoorW.PrintWords Go.Proofs.YthljanmfanppdaaDoorW.PrintLast Go.Proofs.YthljanmfanppdaaDoorW.PrintMore
attribute [local go_sem] max2_int min2_int max_two min_two max_three min_three max_four min_four   -- for this text's walks alone
set_option linter.unusedVariables false
set_option linter.unusedSimpArgs false
def link_nought.f (a0 : Bool) (a1 : Int) : Option (Bool) := if a0 = true then (some true) else (some (a1 == 0))
theorem link_nought.calls (a0 : Bool) (a1 : Int) (r : Bool) (w : World) (h : link_nought.f a0 a1 = some r) :
  Calls Tryd.prog 21 #[.bool a0, .int .i64 a1] w fun e w' => e = .returned (.bool r) ∧ Drawn0 w w' := by
 have H : (if a0 = true then (some true) else (some (a1 == 0))) = some r := h
 clear h
 by_cases c3 : a0 = true
 ·subst c3
  have H1 : (some true) = some r := by rw [if_pos rfl] at H; exact H
  clear H
  have H := H1
  clear H1
  obtain rfl := Option.some.inj H
  go_enter Tryd.func21, Tryd.ntmps21
  go_wp2
  go_ret
  exact ⟨by first | rfl | (simp; done) | (simp [*]; done), by repeat (first | exact Drawn0.refl _ | apply Drawn0.step)⟩
 ·replace c3 := Bool.eq_false_iff.mpr c3
  subst c3
  have H1 : (some (a1 == 0)) = some r := by rw [if_neg (show ¬ (false = true) by decide)] at H; exact H
  clear H
  have H := H1
  clear H1
  obtain rfl := Option.some.inj H
  go_enter Tryd.func21, Tryd.ntmps21
  go_wp2
  go_ret
  exact ⟨by first | rfl | (simp; done) | (simp [*]; done), by repeat (first | exact Drawn0.refl _ | apply Drawn0.step)⟩
def link_Right.j0 : Nat → Bool → Int → Int → Int → Int → Int → Int → Int → Bool → Bool → Bool → Bool → Bool → Option (Bool)
 | 0, _, _, _, _, _, _, _, _, _, _, _, _, _ => none
 | k + 1, x36, x104000, x104001, x104002, x104003, x104004, x104005, x104006, x111000, x111001, x111002, x111003, x111004 => if x36 = true then (some false) else ((link_nought.f x111000 x104001).bind fun t111 => (if t111 = true then ((link_nought.f x111001 x104003).bind fun t112 => (if t112 = true then ((link_nought.f x111002 x104004).bind fun t113 => (if t113 = true then ((link_nought.f x111003 x104005).bind fun t114 => (if t114 = true then ((link_nought.f x111004 x104006).bind fun t115 => (some t115)) else (some false))) else (some false))) else (some false))) else (some false)))
def link_Right.f (k : Nat) (a0_0 : Int) (a0_1 : Int) (a0_2 : Int) (a0_3 : Int) (a0_4 : Int) (a0_5 : Int) (a0_6 : Int) : Option (Bool) := (link_shapeOf.f k a0_0 a0_1 a0_2 a0_3 a0_4 a0_5 a0_6).bind fun bt104 => (if bt104.2.2.2.2.2 = true then (if a0_1 < 0 then (link_Right.j0 k true a0_0 a0_1 a0_2 a0_3 a0_4 a0_5 a0_6 bt104.1 bt104.2.1 bt104.2.2.1 bt104.2.2.2.1 bt104.2.2.2.2.1) else (if a0_4 < 0 then (link_Right.j0 k true a0_0 a0_1 a0_2 a0_3 a0_4 a0_5 a0_6 bt104.1 bt104.2.1 bt104.2.2.1 bt104.2.2.2.1 bt104.2.2.2.2.1) else (if a0_6 < 0 then (link_Right.j0 k true a0_0 a0_1 a0_2 a0_3 a0_4 a0_5 a0_6 bt104.1 bt104.2.1 bt104.2.2.1 bt104.2.2.2.1 bt104.2.2.2.2.1) else (if a0_0 = 4 then (link_Right.j0 k (decide (a0_3 < 0)) a0_0 a0_1 a0_2 a0_3 a0_4 a0_5 a0_6 bt104.1 bt104.2.1 bt104.2.2.1 bt104.2.2.2.1 bt104.2.2.2.2.1) else (link_Right.j0 k false a0_0 a0_1 a0_2 a0_3 a0_4 a0_5 a0_6 bt104.1 bt104.2.1 bt104.2.2.1 bt104.2.2.2.1 bt104.2.2.2.2.1))))) else (link_Right.j0 k true a0_0 a0_1 a0_2 a0_3 a0_4 a0_5 a0_6 bt104.1 bt104.2.1 bt104.2.2.1 bt104.2.2.2.1 bt104.2.2.2.2.1))
theorem link_Right.calls (k : Nat) (a0_0 : Int) (a0_1 : Int) (a0_2 : Int) (a0_3 : Int) (a0_4 : Int) (a0_5 : Int) (a0_6 : Int) (r : Bool) (w : World) (h : link_Right.f k a0_0 a0_1 a0_2 a0_3 a0_4 a0_5 a0_6 = some r) :
  Calls Tryd.prog 13 #[.agg #[.int .i64 a0_0, .int .i64 a0_1, .int .i64 a0_2, .int .i64 a0_3, .int .i64 a0_4, .int .i64 a0_5, .int .i64 a0_6]] w fun e w' => e = .returned (.bool r) ∧ Below w.heap.size w w' := by
 have hu29 := Tryd.underlying29
 have hu48 := Tryd.underlying48
 have HB := Aside0.mk (Below.refl w.heap.size w)
 have H : ((link_shapeOf.f k a0_0 a0_1 a0_2 a0_3 a0_4 a0_5 a0_6).bind fun bt104 => (if bt104.2.2.2.2.2 = true then (if a0_1 < 0 then (link_Right.j0 k true a0_0 a0_1 a0_2 a0_3 a0_4 a0_5 a0_6 bt104.1 bt104.2.1 bt104.2.2.1 bt104.2.2.2.1 bt104.2.2.2.2.1) else (if a0_4 < 0 then (link_Right.j0 k true a0_0 a0_1 a0_2 a0_3 a0_4 a0_5 a0_6 bt104.1 bt104.2.1 bt104.2.2.1 bt104.2.2.2.1 bt104.2.2.2.2.1) else (if a0_6 < 0 then (link_Right.j0 k true a0_0 a0_1 a0_2 a0_3 a0_4 a0_5 a0_6 bt104.1 bt104.2.1 bt104.2.2.1 bt104.2.2.2.1 bt104.2.2.2.2.1) else (if a0_0 = 4 then (link_Right.j0 k (decide (a0_3 < 0)) a0_0 a0_1 a0_2 a0_3 a0_4 a0_5 a0_6 bt104.1 bt104.2.1 bt104.2.2.1 bt104.2.2.2.1 bt104.2.2.2.2.1) else (link_Right.j0 k false a0_0 a0_1 a0_2 a0_3 a0_4 a0_5 a0_6 bt104.1 bt104.2.1 bt104.2.2.1 bt104.2.2.2.1 bt104.2.2.2.2.1))))) else (link_Right.j0 k true a0_0 a0_1 a0_2 a0_3 a0_4 a0_5 a0_6 bt104.1 bt104.2.1 bt104.2.2.1 bt104.2.2.2.1 bt104.2.2.2.2.1))) = some r := h
 clear h
 replace H := Option.bind_eq_some_iff.mp H
 obtain ⟨⟨t104, t105, t106, t107, t108, t109⟩, A20, H⟩ := H
 replace H : (if t109 = true then (if a0_1 < 0 then (link_Right.j0 k true a0_0 a0_1 a0_2 a0_3 a0_4 a0_5 a0_6 t104 t105 t106 t107 t108) else (if a0_4 < 0 then (link_Right.j0 k true a0_0 a0_1 a0_2 a0_3 a0_4 a0_5 a0_6 t104 t105 t106 t107 t108) else (if a0_6 < 0 then (link_Right.j0 k true a0_0 a0_1 a0_2 a0_3 a0_4 a0_5 a0_6 t104 t105 t106 t107 t108) else (if a0_0 = 4 then (link_Right.j0 k (decide (a0_3 < 0)) a0_0 a0_1 a0_2 a0_3 a0_4 a0_5 a0_6 t104 t105 t106 t107 t108) else (link_Right.j0 k false a0_0 a0_1 a0_2 a0_3 a0_4 a0_5 a0_6 t104 t105 t106 t107 t108))))) else (link_Right.j0 k true a0_0 a0_1 a0_2 a0_3 a0_4 a0_5 a0_6 t104 t105 t106 t107 t108)) = some r := H
 have A2 := Aside0.mk A20
 clear A20
 have HC3 := Aside0.mk H
 clear H
 go_enter Tryd.func13, Tryd.ntmps13
 go_upto_region 2 with (first | ((with_reducible refine gate_dst (N := 1) rfl ?_); refine box_event ?hg (N := 1) ?hd (cs := #[.int .i64 a0_0, .int .i64 a0_1, .int .i64 a0_2, .int .i64 a0_3, .int .i64 a0_4, .int .i64 a0_5, .int .i64 a0_6]) (t := 29) ?hr ?_; (case hd => rfl); (case hg => rfl); (case hr => first | (go_simp; done) | (go_simp; rfl)); intro gb103 hg w4 hbox hb; have n0_ := Aside0.mk (below_step (by repeat (first | (with_reducible first | exact HB.out | apply below_alloc | apply pw_below_drewN | apply below_drew1) | exact HB.out)) hb); have n1_ := Aside0.mk (hbox); have n2_ := Aside0.mk ((by rw [hg]; exact (below_size (by repeat (first | (with_reducible first | exact HB.out | apply below_alloc | apply pw_below_drewN | apply below_drew1) | exact HB.out))) : w.heap.size ≤ gb103)); have n3_ := Aside0.mk ((by rw [hg]; exact (below_size (by repeat (first | (with_reducible first | exact HB.out | apply below_alloc | apply pw_below_drewN | apply below_drew1) | exact HB.out))) : w.heap.size ≤ gb103)); clear HB; have HB := n0_; have BK103 := n1_; have GW103 := n2_; have GE103 := n3_; clear n0_ n1_ n2_ n3_; clear hb hbox hg; have hcz5_0 : w4.cell? ⟨gb103, 0, none⟩ = some (.int .i64 a0_0) := (blk_cell BK103.out 0).trans rfl; have hcz5_1 : w4.cell? ⟨gb103, 1, none⟩ = some (.int .i64 a0_1) := (blk_cell BK103.out 1).trans rfl; have hcz5_2 : w4.cell? ⟨gb103, 2, none⟩ = some (.int .i64 a0_2) := (blk_cell BK103.out 2).trans rfl; have hcz5_3 : w4.cell? ⟨gb103, 3, none⟩ = some (.int .i64 a0_3) := (blk_cell BK103.out 3).trans rfl; have hcz5_4 : w4.cell? ⟨gb103, 4, none⟩ = some (.int .i64 a0_4) := (blk_cell BK103.out 4).trans rfl; have hcz5_5 : w4.cell? ⟨gb103, 5, none⟩ = some (.int .i64 a0_5) := (blk_cell BK103.out 5).trans rfl; have hcz5_6 : w4.cell? ⟨gb103, 6, none⟩ = some (.int .i64 a0_6) := (blk_cell BK103.out 6).trans rfl; have hfz5_0 := blk_frozen BK103.out 0; have hfz5_1 := blk_frozen BK103.out 1; have hfz5_2 := blk_frozen BK103.out 2; have hfz5_3 := blk_frozen BK103.out 3; have hfz5_4 := blk_frozen BK103.out 4; have hfz5_5 := blk_frozen BK103.out 5; have hfz5_6 := blk_frozen BK103.out 6) | ((with_reducible refine gate_callee (f := 15) rfl ?_); refine goesL_ (some 7) rfl rfl Tryd.func15 (by kernel_rfl) rfl #[.agg #[.int .i64 a0_0, .int .i64 a0_1, .int .i64 a0_2, .int .i64 a0_3, .int .i64 a0_4, .int .i64 a0_5, .int .i64 a0_6]] rfl (by (try simp only [List.map_toArray, List.map_cons, List.map_nil]); first | done | rfl | (simp only [List.length_drop, List.length_take]; rfl)) ?_; (with_reducible refine (link_shapeOf.calls k a0_0 a0_1 a0_2 a0_3 a0_4 a0_5 a0_6 t104 t105 t106 t107 t108 t109 _ A2.out).mono ?_); rintro e w6 ⟨rfl, hb⟩; refine ⟨_, rfl, ?_⟩; have n0_ := Aside0.mk (blk_below (g := gb103) (o := .cells #[.int .i64 a0_0, .int .i64 a0_1, .int .i64 a0_2, .int .i64 a0_3, .int .i64 a0_4, .int .i64 a0_5, .int .i64 a0_6] 29 (0, 0)) (by (with_reducible repeat (first | refine blk_drewN ?_ _ | refine blk_drew ?_ | refine blk_alloc ?_ _)); exact BK103.out) hb); have n1_ := Aside0.mk (below_step (by repeat (first | (with_reducible first | exact HB.out | apply below_alloc | apply pw_below_drewN | apply below_drew1 | refine below_set ?_ GE103.out) | exact HB.out)) hb); clear BK103; clear HB; have BK103 := n0_; have HB := n1_; clear n0_ n1_; (try clear hb); (try clear hb2); (try clear hk); (try clear hi)) | ((with_reducible refine gate_dst (N := 3) rfl ?_); refine box_event ?hg (N := 3) ?hd (cs := #[.bool false, .bool false, .bool false, .bool false, .bool false]) (t := 48) ?hr ?_; (case hd => rfl); (case hg => rfl); (case hr => first | (go_simp; done) | (go_simp; rfl)); intro gb110 hg w7 hbox hb; have n0_ := Aside0.mk (blk_below (g := gb103) (o := .cells #[.int .i64 a0_0, .int .i64 a0_1, .int .i64 a0_2, .int .i64 a0_3, .int .i64 a0_4, .int .i64 a0_5, .int .i64 a0_6] 29 (0, 0)) (by (with_reducible repeat (first | refine blk_drewN ?_ _ | refine blk_drew ?_ | refine blk_alloc ?_ _)); exact BK103.out) hb); have n1_ := Aside0.mk (below_step (by repeat (first | (with_reducible first | exact HB.out | apply below_alloc | apply pw_below_drewN | apply below_drew1 | refine below_set ?_ GE103.out) | exact HB.out)) hb); have n2_ := Aside0.mk (hbox); have n3_ := Aside0.mk ((by rw [hg]; exact (below_size (by repeat (first | (with_reducible first | exact HB.out | apply below_alloc | apply pw_below_drewN | apply below_drew1 | refine below_set ?_ GE103.out) | exact HB.out))) : w.heap.size ≤ gb110)); have n4_ := Aside0.mk ((by rw [hg]; exact (below_size (by repeat (first | (with_reducible first | exact HB.out | apply below_alloc | apply pw_below_drewN | apply below_drew1 | refine below_set ?_ GE103.out) | exact HB.out))) : w.heap.size ≤ gb110)); have n5_ := Aside0.mk ((by rw [hg]; exact Nat.ne_of_lt (blk_lt (g := gb103) (o := .cells #[.int .i64 a0_0, .int .i64 a0_1, .int .i64 a0_2, .int .i64 a0_3, .int .i64 a0_4, .int .i64 a0_5, .int .i64 a0_6] 29 (0, 0)) (by (with_reducible repeat (first | refine blk_drewN ?_ _ | refine blk_drew ?_ | refine blk_alloc ?_ _)); exact BK103.out)) : gb103 ≠ gb110)); have n6_ := Aside0.mk ((by rw [hg]; exact Nat.ne_of_gt (blk_lt (g := gb103) (o := .cells #[.int .i64 a0_0, .int .i64 a0_1, .int .i64 a0_2, .int .i64 a0_3, .int .i64 a0_4, .int .i64 a0_5, .int .i64 a0_6] 29 (0, 0)) (by (with_reducible repeat (first | refine blk_drewN ?_ _ | refine blk_drew ?_ | refine blk_alloc ?_ _)); exact BK103.out)) : gb110 ≠ gb103)); clear BK103; clear HB; have BK103 := n0_; have HB := n1_; have BK110 := n2_; have GW110 := n3_; have GE110 := n4_; have NB103_110 := n5_; have NB110_103 := n6_; clear n0_ n1_ n2_ n3_ n4_ n5_ n6_; clear hb hbox hg; have hnb8 := NB110_103.out; have hnc8 := NB103_110.out; have hcz9_0 : w7.cell? ⟨gb110, 0, none⟩ = some (.bool false) := (blk_cell BK110.out 0).trans rfl; have hcz9_1 : w7.cell? ⟨gb110, 1, none⟩ = some (.bool false) := (blk_cell BK110.out 1).trans rfl; have hcz9_2 : w7.cell? ⟨gb110, 2, none⟩ = some (.bool false) := (blk_cell BK110.out 2).trans rfl; have hcz9_3 : w7.cell? ⟨gb110, 3, none⟩ = some (.bool false) := (blk_cell BK110.out 3).trans rfl; have hcz9_4 : w7.cell? ⟨gb110, 4, none⟩ = some (.bool false) := (blk_cell BK110.out 4).trans rfl; have hfz9_0 := blk_frozen BK110.out 0; have hfz9_1 := blk_frozen BK110.out 1; have hfz9_2 := blk_frozen BK110.out 2; have hfz9_3 := blk_frozen BK110.out 3; have hfz9_4 := blk_frozen BK110.out 4))
 (try simp only [Act.put, sQ0, sQ1, sQ2])
 go_cut [36] (fun v36 wc => ∃ (kq : Nat) (x36_2 : Bool), v36 = .bool x36_2 ∧ Aside0 (link_Right.j0 kq x36_2 a0_0 a0_1 a0_2 a0_3 a0_4 a0_5 a0_6 t104 t105 t106 t107 t108 = some r) ∧ Aside0 (kq ≤ k) ∧ Aside0 (wc.heap[gb103]? = some (.cells #[.int .i64 a0_0, .int .i64 a0_1, .int .i64 a0_2, .int .i64 a0_3, .int .i64 a0_4, .int .i64 a0_5, .int .i64 a0_6] 29 (0, 0))) ∧ Aside0 (wc.heap[gb110]? = some (.cells #[.bool t104, .bool t105, .bool t106, .bool t107, .bool t108] 48 (0, 0))) ∧ Aside0 (Below w.heap.size w wc))
 case first =>
  have H := HC3.out
  clear HC3
  by_cases c10 : t109 = true
  ·subst c10
   have H1 : (if a0_1 < 0 then (link_Right.j0 k true a0_0 a0_1 a0_2 a0_3 a0_4 a0_5 a0_6 t104 t105 t106 t107 t108) else (if a0_4 < 0 then (link_Right.j0 k true a0_0 a0_1 a0_2 a0_3 a0_4 a0_5 a0_6 t104 t105 t106 t107 t108) else (if a0_6 < 0 then (link_Right.j0 k true a0_0 a0_1 a0_2 a0_3 a0_4 a0_5 a0_6 t104 t105 t106 t107 t108) else (if a0_0 = 4 then (link_Right.j0 k (decide (a0_3 < 0)) a0_0 a0_1 a0_2 a0_3 a0_4 a0_5 a0_6 t104 t105 t106 t107 t108) else (link_Right.j0 k false a0_0 a0_1 a0_2 a0_3 a0_4 a0_5 a0_6 t104 t105 t106 t107 t108))))) = some r := by rw [if_pos rfl] at H; exact H
   clear H
   have H := H1
   clear H1
   by_cases c11 : a0_1 < 0
   ·rw [if_pos c11] at H
    have c11b0 : decide (a0_1 < 0) = true := decide_eq_true c11
    clear c11
    (first | rw [c11b0] | (simp only [i64_w, i32_w]; rw [c11b0]) | skip)
    have H' := Aside0.mk H
    clear H
    have hnb12 := NB103_110.out
    have hnc12 := NB110_103.out
    have hcz13_0 : w7.cell? ⟨gb103, 0, none⟩ = some (.int .i64 a0_0) := (blk_cell BK103.out 0).trans rfl
    have hcz13_1 : w7.cell? ⟨gb103, 1, none⟩ = some (.int .i64 a0_1) := (blk_cell BK103.out 1).trans rfl
    have hcz13_2 : w7.cell? ⟨gb103, 2, none⟩ = some (.int .i64 a0_2) := (blk_cell BK103.out 2).trans rfl
    have hcz13_3 : w7.cell? ⟨gb103, 3, none⟩ = some (.int .i64 a0_3) := (blk_cell BK103.out 3).trans rfl
    have hcz13_4 : w7.cell? ⟨gb103, 4, none⟩ = some (.int .i64 a0_4) := (blk_cell BK103.out 4).trans rfl
    have hcz13_5 : w7.cell? ⟨gb103, 5, none⟩ = some (.int .i64 a0_5) := (blk_cell BK103.out 5).trans rfl
    have hcz13_6 : w7.cell? ⟨gb103, 6, none⟩ = some (.int .i64 a0_6) := (blk_cell BK103.out 6).trans rfl
    have hfz13_0 := blk_frozen BK103.out 0
    have hfz13_1 := blk_frozen BK103.out 1
    have hfz13_2 := blk_frozen BK103.out 2
    have hfz13_3 := blk_frozen BK103.out 3
    have hfz13_4 := blk_frozen BK103.out 4
    have hfz13_5 := blk_frozen BK103.out 5
    have hfz13_6 := blk_frozen BK103.out 6
    go_wp2
    go_meet
    case rel => exact ⟨_, (true), (by first | rfl | (simp; done) | (simp [*]; done)), H', ⟨by first | omega | exact Nat.le_refl _⟩, ⟨by (with_reducible repeat (first | refine blk_drewN ?_ _ | refine blk_drew ?_ | refine blk_alloc ?_ _)); refine blk_far ?_ NB103_110.out _; (with_reducible repeat (first | refine blk_drewN ?_ _ | refine blk_drew ?_ | refine blk_alloc ?_ _)); refine blk_far ?_ NB103_110.out _; (with_reducible repeat (first | refine blk_drewN ?_ _ | refine blk_drew ?_ | refine blk_alloc ?_ _)); refine blk_far ?_ NB103_110.out _; (with_reducible repeat (first | refine blk_drewN ?_ _ | refine blk_drew ?_ | refine blk_alloc ?_ _)); refine blk_far ?_ NB103_110.out _; (with_reducible repeat (first | refine blk_drewN ?_ _ | refine blk_drew ?_ | refine blk_alloc ?_ _)); refine blk_far ?_ NB103_110.out _; (with_reducible repeat (first | refine blk_drewN ?_ _ | refine blk_drew ?_ | refine blk_alloc ?_ _)); exact BK103.out⟩, ⟨by (with_reducible repeat (first | refine blk_drewN ?_ _ | refine blk_drew ?_ | refine blk_alloc ?_ _)); refine blk_put (cs := #[.bool t104, .bool t105, .bool t106, .bool t107, .bool false]) ?_ 4 _ rfl; (with_reducible repeat (first | refine blk_drewN ?_ _ | refine blk_drew ?_ | refine blk_alloc ?_ _)); refine blk_put (cs := #[.bool t104, .bool t105, .bool t106, .bool false, .bool false]) ?_ 3 _ rfl; (with_reducible repeat (first | refine blk_drewN ?_ _ | refine blk_drew ?_ | refine blk_alloc ?_ _)); refine blk_put (cs := #[.bool t104, .bool t105, .bool false, .bool false, .bool false]) ?_ 2 _ rfl; (with_reducible repeat (first | refine blk_drewN ?_ _ | refine blk_drew ?_ | refine blk_alloc ?_ _)); refine blk_put (cs := #[.bool t104, .bool false, .bool false, .bool false, .bool false]) ?_ 1 _ rfl; (with_reducible repeat (first | refine blk_drewN ?_ _ | refine blk_drew ?_ | refine blk_alloc ?_ _)); refine blk_put (cs := #[.bool false, .bool false, .bool false, .bool false, .bool false]) ?_ 0 _ rfl; (with_reducible repeat (first | refine blk_drewN ?_ _ | refine blk_drew ?_ | refine blk_alloc ?_ _)); exact BK110.out⟩, ⟨by repeat (first | (with_reducible first | exact HB.out | apply below_alloc | apply pw_below_drewN | apply below_drew1 | refine below_set ?_ GE103.out | refine below_set ?_ GE110.out) | exact HB.out)⟩⟩
   ·rw [if_neg c11] at H
    have c11b0 : decide (a0_1 < 0) = false := decide_eq_false c11
    clear c11
    (first | rw [c11b0] | (simp only [i64_w, i32_w]; rw [c11b0]) | skip)
    by_cases c14 : a0_4 < 0
    ·rw [if_pos c14] at H
     have c14b0 : decide (a0_4 < 0) = true := decide_eq_true c14
     clear c14
     have H' := Aside0.mk H
     clear H
     have hnb15 := NB103_110.out
     have hnc15 := NB110_103.out
     have hcz16_0 : w7.cell? ⟨gb103, 0, none⟩ = some (.int .i64 a0_0) := (blk_cell BK103.out 0).trans rfl
     have hcz16_1 : w7.cell? ⟨gb103, 1, none⟩ = some (.int .i64 a0_1) := (blk_cell BK103.out 1).trans rfl
     have hcz16_2 : w7.cell? ⟨gb103, 2, none⟩ = some (.int .i64 a0_2) := (blk_cell BK103.out 2).trans rfl
     have hcz16_3 : w7.cell? ⟨gb103, 3, none⟩ = some (.int .i64 a0_3) := (blk_cell BK103.out 3).trans rfl
     have hcz16_4 : w7.cell? ⟨gb103, 4, none⟩ = some (.int .i64 a0_4) := (blk_cell BK103.out 4).trans rfl
     have hcz16_5 : w7.cell? ⟨gb103, 5, none⟩ = some (.int .i64 a0_5) := (blk_cell BK103.out 5).trans rfl
     have hcz16_6 : w7.cell? ⟨gb103, 6, none⟩ = some (.int .i64 a0_6) := (blk_cell BK103.out 6).trans rfl
     have hfz16_0 := blk_frozen BK103.out 0
     have hfz16_1 := blk_frozen BK103.out 1
     have hfz16_2 := blk_frozen BK103.out 2
     have hfz16_3 := blk_frozen BK103.out 3
     have hfz16_4 := blk_frozen BK103.out 4
     have hfz16_5 := blk_frozen BK103.out 5
     have hfz16_6 := blk_frozen BK103.out 6
     go_wp2
     go_meet
     case rel => exact ⟨_, (true), (by first | rfl | (simp; done) | (simp [*]; done)), H', ⟨by first | omega | exact Nat.le_refl _⟩, ⟨by (with_reducible repeat (first | refine blk_drewN ?_ _ | refine blk_drew ?_ | refine blk_alloc ?_ _)); refine blk_far ?_ NB103_110.out _; (with_reducible repeat (first | refine blk_drewN ?_ _ | refine blk_drew ?_ | refine blk_alloc ?_ _)); refine blk_far ?_ NB103_110.out _; (with_reducible repeat (first | refine blk_drewN ?_ _ | refine blk_drew ?_ | refine blk_alloc ?_ _)); refine blk_far ?_ NB103_110.out _; (with_reducible repeat (first | refine blk_drewN ?_ _ | refine blk_drew ?_ | refine blk_alloc ?_ _)); refine blk_far ?_ NB103_110.out _; (with_reducible repeat (first | refine blk_drewN ?_ _ | refine blk_drew ?_ | refine blk_alloc ?_ _)); refine blk_far ?_ NB103_110.out _; (with_reducible repeat (first | refine blk_drewN ?_ _ | refine blk_drew ?_ | refine blk_alloc ?_ _)); exact BK103.out⟩, ⟨by (with_reducible repeat (first | refine blk_drewN ?_ _ | refine blk_drew ?_ | refine blk_alloc ?_ _)); refine blk_put (cs := #[.bool t104, .bool t105, .bool t106, .bool t107, .bool false]) ?_ 4 _ rfl; (with_reducible repeat (first | refine blk_drewN ?_ _ | refine blk_drew ?_ | refine blk_alloc ?_ _)); refine blk_put (cs := #[.bool t104, .bool t105, .bool t106, .bool false, .bool false]) ?_ 3 _ rfl; (with_reducible repeat (first | refine blk_drewN ?_ _ | refine blk_drew ?_ | refine blk_alloc ?_ _)); refine blk_put (cs := #[.bool t104, .bool t105, .bool false, .bool false, .bool false]) ?_ 2 _ rfl; (with_reducible repeat (first | refine blk_drewN ?_ _ | refine blk_drew ?_ | refine blk_alloc ?_ _)); refine blk_put (cs := #[.bool t104, .bool false, .bool false, .bool false, .bool false]) ?_ 1 _ rfl; (with_reducible repeat (first | refine blk_drewN ?_ _ | refine blk_drew ?_ | refine blk_alloc ?_ _)); refine blk_put (cs := #[.bool false, .bool false, .bool false, .bool false, .bool false]) ?_ 0 _ rfl; (with_reducible repeat (first | refine blk_drewN ?_ _ | refine blk_drew ?_ | refine blk_alloc ?_ _)); exact BK110.out⟩, ⟨by repeat (first | (with_reducible first | exact HB.out | apply below_alloc | apply pw_below_drewN | apply below_drew1 | refine below_set ?_ GE103.out | refine below_set ?_ GE110.out) | exact HB.out)⟩⟩
    ·rw [if_neg c14] at H
     have c14b0 : decide (a0_4 < 0) = false := decide_eq_false c14
     clear c14
     by_cases c17 : a0_6 < 0
     ·rw [if_pos c17] at H
      have c17b0 : decide (a0_6 < 0) = true := decide_eq_true c17
      clear c17
      have H' := Aside0.mk H
      clear H
      have hnb18 := NB103_110.out
      have hnc18 := NB110_103.out
      have hcz19_0 : w7.cell? ⟨gb103, 0, none⟩ = some (.int .i64 a0_0) := (blk_cell BK103.out 0).trans rfl
      have hcz19_1 : w7.cell? ⟨gb103, 1, none⟩ = some (.int .i64 a0_1) := (blk_cell BK103.out 1).trans rfl
      have hcz19_2 : w7.cell? ⟨gb103, 2, none⟩ = some (.int .i64 a0_2) := (blk_cell BK103.out 2).trans rfl
      have hcz19_3 : w7.cell? ⟨gb103, 3, none⟩ = some (.int .i64 a0_3) := (blk_cell BK103.out 3).trans rfl
      have hcz19_4 : w7.cell? ⟨gb103, 4, none⟩ = some (.int .i64 a0_4) := (blk_cell BK103.out 4).trans rfl
      have hcz19_5 : w7.cell? ⟨gb103, 5, none⟩ = some (.int .i64 a0_5) := (blk_cell BK103.out 5).trans rfl
      have hcz19_6 : w7.cell? ⟨gb103, 6, none⟩ = some (.int .i64 a0_6) := (blk_cell BK103.out 6).trans rfl
      have hfz19_0 := blk_frozen BK103.out 0
      have hfz19_1 := blk_frozen BK103.out 1
      have hfz19_2 := blk_frozen BK103.out 2
      have hfz19_3 := blk_frozen BK103.out 3
      have hfz19_4 := blk_frozen BK103.out 4
      have hfz19_5 := blk_frozen BK103.out 5
      have hfz19_6 := blk_frozen BK103.out 6
      go_wp2
      go_meet
      case rel => exact ⟨_, (true), (by first | rfl | (simp; done) | (simp [*]; done)), H', ⟨by first | omega | exact Nat.le_refl _⟩, ⟨by (with_reducible repeat (first | refine blk_drewN ?_ _ | refine blk_drew ?_ | refine blk_alloc ?_ _)); refine blk_far ?_ NB103_110.out _; (with_reducible repeat (first | refine blk_drewN ?_ _ | refine blk_drew ?_ | refine blk_alloc ?_ _)); refine blk_far ?_ NB103_110.out _; (with_reducible repeat (first | refine blk_drewN ?_ _ | refine blk_drew ?_ | refine blk_alloc ?_ _)); refine blk_far ?_ NB103_110.out _; (with_reducible repeat (first | refine blk_drewN ?_ _ | refine blk_drew ?_ | refine blk_alloc ?_ _)); refine blk_far ?_ NB103_110.out _; (with_reducible repeat (first | refine blk_drewN ?_ _ | refine blk_drew ?_ | refine blk_alloc ?_ _)); refine blk_far ?_ NB103_110.out _; (with_reducible repeat (first | refine blk_drewN ?_ _ | refine blk_drew ?_ | refine blk_alloc ?_ _)); exact BK103.out⟩, ⟨by (with_reducible repeat (first | refine blk_drewN ?_ _ | refine blk_drew ?_ | refine blk_alloc ?_ _)); refine blk_put (cs := #[.bool t104, .bool t105, .bool t106, .bool t107, .bool false]) ?_ 4 _ rfl; (with_reducible repeat (first | refine blk_drewN ?_ _ | refine blk_drew ?_ | refine blk_alloc ?_ _)); refine blk_put (cs := #[.bool t104, .bool t105, .bool t106, .bool false, .bool false]) ?_ 3 _ rfl; (with_reducible repeat (first | refine blk_drewN ?_ _ | refine blk_drew ?_ | refine blk_alloc ?_ _)); refine blk_put (cs := #[.bool t104, .bool t105, .bool false, .bool false, .bool false]) ?_ 2 _ rfl; (with_reducible repeat (first | refine blk_drewN ?_ _ | refine blk_drew ?_ | refine blk_alloc ?_ _)); refine blk_put (cs := #[.bool t104, .bool false, .bool false, .bool false, .bool false]) ?_ 1 _ rfl; (with_reducible repeat (first | refine blk_drewN ?_ _ | refine blk_drew ?_ | refine blk_alloc ?_ _)); refine blk_put (cs := #[.bool false, .bool false, .bool false, .bool false, .bool false]) ?_ 0 _ rfl; (with_reducible repeat (first | refine blk_drewN ?_ _ | refine blk_drew ?_ | refine blk_alloc ?_ _)); exact BK110.out⟩, ⟨by repeat (first | (with_reducible first | exact HB.out | apply below_alloc | apply pw_below_drewN | apply below_drew1 | refine below_set ?_ GE103.out | refine below_set ?_ GE110.out) | exact HB.out)⟩⟩
     ·rw [if_neg c17] at H
      have c17b0 : decide (a0_6 < 0) = false := decide_eq_false c17
      clear c17
      by_cases c20 : a0_0 = 4
      ·rw [if_pos c20] at H
       have c20b0 : (a0_0 == 4) = true := beq_iff_eq.mpr c20
       have c20b1 : (a0_0 != 4) = false := bne_eq_false_iff_eq.mpr c20
       clear c20
       have H' := Aside0.mk H
       clear H
       have hnb21 := NB103_110.out
       have hnc21 := NB110_103.out
       have hcz22_0 : w7.cell? ⟨gb103, 0, none⟩ = some (.int .i64 a0_0) := (blk_cell BK103.out 0).trans rfl
       have hcz22_1 : w7.cell? ⟨gb103, 1, none⟩ = some (.int .i64 a0_1) := (blk_cell BK103.out 1).trans rfl
       have hcz22_2 : w7.cell? ⟨gb103, 2, none⟩ = some (.int .i64 a0_2) := (blk_cell BK103.out 2).trans rfl
       have hcz22_3 : w7.cell? ⟨gb103, 3, none⟩ = some (.int .i64 a0_3) := (blk_cell BK103.out 3).trans rfl
       have hcz22_4 : w7.cell? ⟨gb103, 4, none⟩ = some (.int .i64 a0_4) := (blk_cell BK103.out 4).trans rfl
       have hcz22_5 : w7.cell? ⟨gb103, 5, none⟩ = some (.int .i64 a0_5) := (blk_cell BK103.out 5).trans rfl
       have hcz22_6 : w7.cell? ⟨gb103, 6, none⟩ = some (.int .i64 a0_6) := (blk_cell BK103.out 6).trans rfl
       have hfz22_0 := blk_frozen BK103.out 0
       have hfz22_1 := blk_frozen BK103.out 1
       have hfz22_2 := blk_frozen BK103.out 2
       have hfz22_3 := blk_frozen BK103.out 3
       have hfz22_4 := blk_frozen BK103.out 4
       have hfz22_5 := blk_frozen BK103.out 5
       have hfz22_6 := blk_frozen BK103.out 6
       go_wp2
       go_meet
       case rel => exact ⟨_, (decide (a0_3 < 0)), (by first | rfl | (simp; done) | (simp [*]; done)), H', ⟨by first | omega | exact Nat.le_refl _⟩, ⟨by (with_reducible repeat (first | refine blk_drewN ?_ _ | refine blk_drew ?_ | refine blk_alloc ?_ _)); refine blk_far ?_ NB103_110.out _; (with_reducible repeat (first | refine blk_drewN ?_ _ | refine blk_drew ?_ | refine blk_alloc ?_ _)); refine blk_far ?_ NB103_110.out _; (with_reducible repeat (first | refine blk_drewN ?_ _ | refine blk_drew ?_ | refine blk_alloc ?_ _)); refine blk_far ?_ NB103_110.out _; (with_reducible repeat (first | refine blk_drewN ?_ _ | refine blk_drew ?_ | refine blk_alloc ?_ _)); refine blk_far ?_ NB103_110.out _; (with_reducible repeat (first | refine blk_drewN ?_ _ | refine blk_drew ?_ | refine blk_alloc ?_ _)); refine blk_far ?_ NB103_110.out _; (with_reducible repeat (first | refine blk_drewN ?_ _ | refine blk_drew ?_ | refine blk_alloc ?_ _)); exact BK103.out⟩, ⟨by (with_reducible repeat (first | refine blk_drewN ?_ _ | refine blk_drew ?_ | refine blk_alloc ?_ _)); refine blk_put (cs := #[.bool t104, .bool t105, .bool t106, .bool t107, .bool false]) ?_ 4 _ rfl; (with_reducible repeat (first | refine blk_drewN ?_ _ | refine blk_drew ?_ | refine blk_alloc ?_ _)); refine blk_put (cs := #[.bool t104, .bool t105, .bool t106, .bool false, .bool false]) ?_ 3 _ rfl; (with_reducible repeat (first | refine blk_drewN ?_ _ | refine blk_drew ?_ | refine blk_alloc ?_ _)); refine blk_put (cs := #[.bool t104, .bool t105, .bool false, .bool false, .bool false]) ?_ 2 _ rfl; (with_reducible repeat (first | refine blk_drewN ?_ _ | refine blk_drew ?_ | refine blk_alloc ?_ _)); refine blk_put (cs := #[.bool t104, .bool false, .bool false, .bool false, .bool false]) ?_ 1 _ rfl; (with_reducible repeat (first | refine blk_drewN ?_ _ | refine blk_drew ?_ | refine blk_alloc ?_ _)); refine blk_put (cs := #[.bool false, .bool false, .bool false, .bool false, .bool false]) ?_ 0 _ rfl; (with_reducible repeat (first | refine blk_drewN ?_ _ | refine blk_drew ?_ | refine blk_alloc ?_ _)); exact BK110.out⟩, ⟨by repeat (first | (with_reducible first | exact HB.out | apply below_alloc | apply pw_below_drewN | apply below_drew1 | refine below_set ?_ GE103.out | refine below_set ?_ GE110.out) | exact HB.out)⟩⟩
      ·rw [if_neg c20] at H
       have c20b0 : (a0_0 == 4) = false := beq_eq_false_iff_ne.mpr c20
       have c20b1 : (a0_0 != 4) = true := bne_iff_ne.mpr c20
       have H' := Aside0.mk H
       clear H
       have hnb23 := NB103_110.out
       have hnc23 := NB110_103.out
       have hcz24_0 : w7.cell? ⟨gb103, 0, none⟩ = some (.int .i64 a0_0) := (blk_cell BK103.out 0).trans rfl
       have hcz24_1 : w7.cell? ⟨gb103, 1, none⟩ = some (.int .i64 a0_1) := (blk_cell BK103.out 1).trans rfl
       have hcz24_2 : w7.cell? ⟨gb103, 2, none⟩ = some (.int .i64 a0_2) := (blk_cell BK103.out 2).trans rfl
       have hcz24_3 : w7.cell? ⟨gb103, 3, none⟩ = some (.int .i64 a0_3) := (blk_cell BK103.out 3).trans rfl
       have hcz24_4 : w7.cell? ⟨gb103, 4, none⟩ = some (.int .i64 a0_4) := (blk_cell BK103.out 4).trans rfl
       have hcz24_5 : w7.cell? ⟨gb103, 5, none⟩ = some (.int .i64 a0_5) := (blk_cell BK103.out 5).trans rfl
       have hcz24_6 : w7.cell? ⟨gb103, 6, none⟩ = some (.int .i64 a0_6) := (blk_cell BK103.out 6).trans rfl
       have hfz24_0 := blk_frozen BK103.out 0
       have hfz24_1 := blk_frozen BK103.out 1
       have hfz24_2 := blk_frozen BK103.out 2
       have hfz24_3 := blk_frozen BK103.out 3
       have hfz24_4 := blk_frozen BK103.out 4
       have hfz24_5 := blk_frozen BK103.out 5
       have hfz24_6 := blk_frozen BK103.out 6
       go_wp2
       go_meet
       case rel => exact ⟨_, (false), (by first | rfl | (simp; done) | (simp [*]; done)), H', ⟨by first | omega | exact Nat.le_refl _⟩, ⟨by (with_reducible repeat (first | refine blk_drewN ?_ _ | refine blk_drew ?_ | refine blk_alloc ?_ _)); refine blk_far ?_ NB103_110.out _; (with_reducible repeat (first | refine blk_drewN ?_ _ | refine blk_drew ?_ | refine blk_alloc ?_ _)); refine blk_far ?_ NB103_110.out _; (with_reducible repeat (first | refine blk_drewN ?_ _ | refine blk_drew ?_ | refine blk_alloc ?_ _)); refine blk_far ?_ NB103_110.out _; (with_reducible repeat (first | refine blk_drewN ?_ _ | refine blk_drew ?_ | refine blk_alloc ?_ _)); refine blk_far ?_ NB103_110.out _; (with_reducible repeat (first | refine blk_drewN ?_ _ | refine blk_drew ?_ | refine blk_alloc ?_ _)); refine blk_far ?_ NB103_110.out _; (with_reducible repeat (first | refine blk_drewN ?_ _ | refine blk_drew ?_ | refine blk_alloc ?_ _)); exact BK103.out⟩, ⟨by (with_reducible repeat (first | refine blk_drewN ?_ _ | refine blk_drew ?_ | refine blk_alloc ?_ _)); refine blk_put (cs := #[.bool t104, .bool t105, .bool t106, .bool t107, .bool false]) ?_ 4 _ rfl; (with_reducible repeat (first | refine blk_drewN ?_ _ | refine blk_drew ?_ | refine blk_alloc ?_ _)); refine blk_put (cs := #[.bool t104, .bool t105, .bool t106, .bool false, .bool false]) ?_ 3 _ rfl; (with_reducible repeat (first | refine blk_drewN ?_ _ | refine blk_drew ?_ | refine blk_alloc ?_ _)); refine blk_put (cs := #[.bool t104, .bool t105, .bool false, .bool false, .bool false]) ?_ 2 _ rfl; (with_reducible repeat (first | refine blk_drewN ?_ _ | refine blk_drew ?_ | refine blk_alloc ?_ _)); refine blk_put (cs := #[.bool t104, .bool false, .bool false, .bool false, .bool false]) ?_ 1 _ rfl; (with_reducible repeat (first | refine blk_drewN ?_ _ | refine blk_drew ?_ | refine blk_alloc ?_ _)); refine blk_put (cs := #[.bool false, .bool false, .bool false, .bool false, .bool false]) ?_ 0 _ rfl; (with_reducible repeat (first | refine blk_drewN ?_ _ | refine blk_drew ?_ | refine blk_alloc ?_ _)); exact BK110.out⟩, ⟨by repeat (first | (with_reducible first | exact HB.out | apply below_alloc | apply pw_below_drewN | apply below_drew1 | refine below_set ?_ GE103.out | refine below_set ?_ GE110.out) | exact HB.out)⟩⟩
  ·replace c10 := Bool.eq_false_iff.mpr c10
   subst c10
   have H1 : (link_Right.j0 k true a0_0 a0_1 a0_2 a0_3 a0_4 a0_5 a0_6 t104 t105 t106 t107 t108) = some r := by rw [if_neg (show ¬ (false = true) by decide)] at H; exact H
   clear H
   have H := H1
   clear H1
   have H' := Aside0.mk H
   clear H
   go_wp2
   go_meet
   case rel => exact ⟨_, (true), (by first | rfl | (simp; done) | (simp [*]; done)), H', ⟨by first | omega | exact Nat.le_refl _⟩, ⟨by (with_reducible repeat (first | refine blk_drewN ?_ _ | refine blk_drew ?_ | refine blk_alloc ?_ _)); refine blk_far ?_ NB103_110.out _; (with_reducible repeat (first | refine blk_drewN ?_ _ | refine blk_drew ?_ | refine blk_alloc ?_ _)); refine blk_far ?_ NB103_110.out _; (with_reducible repeat (first | refine blk_drewN ?_ _ | refine blk_drew ?_ | refine blk_alloc ?_ _)); refine blk_far ?_ NB103_110.out _; (with_reducible repeat (first | refine blk_drewN ?_ _ | refine blk_drew ?_ | refine blk_alloc ?_ _)); refine blk_far ?_ NB103_110.out _; (with_reducible repeat (first | refine blk_drewN ?_ _ | refine blk_drew ?_ | refine blk_alloc ?_ _)); refine blk_far ?_ NB103_110.out _; (with_reducible repeat (first | refine blk_drewN ?_ _ | refine blk_drew ?_ | refine blk_alloc ?_ _)); exact BK103.out⟩, ⟨by (with_reducible repeat (first | refine blk_drewN ?_ _ | refine blk_drew ?_ | refine blk_alloc ?_ _)); refine blk_put (cs := #[.bool t104, .bool t105, .bool t106, .bool t107, .bool false]) ?_ 4 _ rfl; (with_reducible repeat (first | refine blk_drewN ?_ _ | refine blk_drew ?_ | refine blk_alloc ?_ _)); refine blk_put (cs := #[.bool t104, .bool t105, .bool t106, .bool false, .bool false]) ?_ 3 _ rfl; (with_reducible repeat (first | refine blk_drewN ?_ _ | refine blk_drew ?_ | refine blk_alloc ?_ _)); refine blk_put (cs := #[.bool t104, .bool t105, .bool false, .bool false, .bool false]) ?_ 2 _ rfl; (with_reducible repeat (first | refine blk_drewN ?_ _ | refine blk_drew ?_ | refine blk_alloc ?_ _)); refine blk_put (cs := #[.bool t104, .bool false, .bool false, .bool false, .bool false]) ?_ 1 _ rfl; (with_reducible repeat (first | refine blk_drewN ?_ _ | refine blk_drew ?_ | refine blk_alloc ?_ _)); refine blk_put (cs := #[.bool false, .bool false, .bool false, .bool false, .bool false]) ?_ 0 _ rfl; (with_reducible repeat (first | refine blk_drewN ?_ _ | refine blk_drew ?_ | refine blk_alloc ?_ _)); exact BK110.out⟩, ⟨by repeat (first | (with_reducible first | exact HB.out | apply below_alloc | apply pw_below_drewN | apply below_drew1 | refine below_set ?_ GE103.out | refine below_set ?_ GE110.out) | exact HB.out)⟩⟩
 case rest =>
  clear HC3
  try clear c1
  try clear c2
  try clear p2
  try clear c8
  try clear c10
  try clear c11
  try clear c11b0
  try clear c12
  try clear c13
  try clear c14
  try clear c14b0
  try clear c15
  try clear c17
  try clear c17b0
  try clear c18
  try clear c20
  try clear c20b0
  try clear c20b1
  try clear c21
  try clear c23
  try clear hcz13_0
  try clear hcz13_1
  try clear hcz13_2
  try clear hcz13_3
  try clear hcz13_4
  try clear hcz13_5
  try clear hcz13_6
  try clear hcz16_0
  try clear hcz16_1
  try clear hcz16_2
  try clear hcz16_3
  try clear hcz16_4
  try clear hcz16_5
  try clear hcz16_6
  try clear hcz19_0
  try clear hcz19_1
  try clear hcz19_2
  try clear hcz19_3
  try clear hcz19_4
  try clear hcz19_5
  try clear hcz19_6
  try clear hcz22_0
  try clear hcz22_1
  try clear hcz22_2
  try clear hcz22_3
  try clear hcz22_4
  try clear hcz22_5
  try clear hcz22_6
  try clear hcz24_0
  try clear hcz24_1
  try clear hcz24_2
  try clear hcz24_3
  try clear hcz24_4
  try clear hcz24_5
  try clear hcz24_6
  try clear hcz5_0
  try clear hcz5_1
  try clear hcz5_2
  try clear hcz5_3
  try clear hcz5_4
  try clear hcz5_5
  try clear hcz5_6
  try clear hcz9_0
  try clear hcz9_1
  try clear hcz9_2
  try clear hcz9_3
  try clear hcz9_4
  try clear hfz13_0
  try clear hfz13_1
  try clear hfz13_2
  try clear hfz13_3
  try clear hfz13_4
  try clear hfz13_5
  try clear hfz13_6
  try clear hfz16_0
  try clear hfz16_1
  try clear hfz16_2
  try clear hfz16_3
  try clear hfz16_4
  try clear hfz16_5
  try clear hfz16_6
  try clear hfz19_0
  try clear hfz19_1
  try clear hfz19_2
  try clear hfz19_3
  try clear hfz19_4
  try clear hfz19_5
  try clear hfz19_6
  try clear hfz22_0
  try clear hfz22_1
  try clear hfz22_2
  try clear hfz22_3
  try clear hfz22_4
  try clear hfz22_5
  try clear hfz22_6
  try clear hfz24_0
  try clear hfz24_1
  try clear hfz24_2
  try clear hfz24_3
  try clear hfz24_4
  try clear hfz24_5
  try clear hfz24_6
  try clear hfz5_0
  try clear hfz5_1
  try clear hfz5_2
  try clear hfz5_3
  try clear hfz5_4
  try clear hfz5_5
  try clear hfz5_6
  try clear hfz9_0
  try clear hfz9_1
  try clear hfz9_2
  try clear hfz9_3
  try clear hfz9_4
  obtain ⟨kq, x36_2, rfl, HA, HJ2, BK103, BK110, HB⟩ := hcut
  cases kq with
  | zero => exact absurd HA.out (by simp [link_Right.j0])
  | succ kj2 =>
   have H := HA.out
   clear HA
   simp only [link_Right.j0] at H
   by_cases c25 : x36_2 = true
   ·subst c25
    have H1 : (some false) = some r := by rw [if_pos rfl] at H; exact H
    clear H
    have H := H1
    clear H1
    obtain rfl := Option.some.inj H
    go_wp2
    go_ret
    exact ⟨by first | rfl | (simp [errW_none, errW_some] <;> rfl) | (simp [*, errW_none, errW_some] <;> rfl), by repeat (first | (with_reducible first | exact HB.out | apply below_alloc | apply pw_below_drewN | apply below_drew1 | refine below_set ?_ GE103.out | refine below_set ?_ GE110.out) | exact HB.out)⟩
   ·replace c25 := Bool.eq_false_iff.mpr c25
    subst c25
    have H1 : ((link_nought.f t104 a0_1).bind fun t111 => (if t111 = true then ((link_nought.f t105 a0_3).bind fun t112 => (if t112 = true then ((link_nought.f t106 a0_4).bind fun t113 => (if t113 = true then ((link_nought.f t107 a0_5).bind fun t114 => (if t114 = true then ((link_nought.f t108 a0_6).bind fun t115 => (some t115)) else (some false))) else (some false))) else (some false))) else (some false))) = some r := by rw [if_neg (show ¬ (false = true) by decide)] at H; exact H
    clear H
    have H := H1
    clear H1
    replace H := Option.bind_eq_some_iff.mp H
    obtain ⟨t111, A260, H⟩ := H
    replace H : (if t111 = true then ((link_nought.f t105 a0_3).bind fun t112 => (if t112 = true then ((link_nought.f t106 a0_4).bind fun t113 => (if t113 = true then ((link_nought.f t107 a0_5).bind fun t114 => (if t114 = true then ((link_nought.f t108 a0_6).bind fun t115 => (some t115)) else (some false))) else (some false))) else (some false))) else (some false)) = some r := H
    have A26 := Aside0.mk A260
    clear A260
    by_cases c27 : t111 = true
    ·subst c27
     have H1 : ((link_nought.f t105 a0_3).bind fun t112 => (if t112 = true then ((link_nought.f t106 a0_4).bind fun t113 => (if t113 = true then ((link_nought.f t107 a0_5).bind fun t114 => (if t114 = true then ((link_nought.f t108 a0_6).bind fun t115 => (some t115)) else (some false))) else (some false))) else (some false))) = some r := by rw [if_pos rfl] at H; exact H
     clear H
     have H := H1
     clear H1
     replace H := Option.bind_eq_some_iff.mp H
     obtain ⟨t112, A280, H⟩ := H
     replace H : (if t112 = true then ((link_nought.f t106 a0_4).bind fun t113 => (if t113 = true then ((link_nought.f t107 a0_5).bind fun t114 => (if t114 = true then ((link_nought.f t108 a0_6).bind fun t115 => (some t115)) else (some false))) else (some false))) else (some false)) = some r := H
     have A28 := Aside0.mk A280
     clear A280
     by_cases c29 : t112 = true
     ·subst c29
      have H1 : ((link_nought.f t106 a0_4).bind fun t113 => (if t113 = true then ((link_nought.f t107 a0_5).bind fun t114 => (if t114 = true then ((link_nought.f t108 a0_6).bind fun t115 => (some t115)) else (some false))) else (some false))) = some r := by rw [if_pos rfl] at H; exact H
      clear H
      have H := H1
      clear H1
      replace H := Option.bind_eq_some_iff.mp H
      obtain ⟨t113, A300, H⟩ := H
      replace H : (if t113 = true then ((link_nought.f t107 a0_5).bind fun t114 => (if t114 = true then ((link_nought.f t108 a0_6).bind fun t115 => (some t115)) else (some false))) else (some false)) = some r := H
      have A30 := Aside0.mk A300
      clear A300
      by_cases c31 : t113 = true
      ·subst c31
       have H1 : ((link_nought.f t107 a0_5).bind fun t114 => (if t114 = true then ((link_nought.f t108 a0_6).bind fun t115 => (some t115)) else (some false))) = some r := by rw [if_pos rfl] at H; exact H
       clear H
       have H := H1
       clear H1
       replace H := Option.bind_eq_some_iff.mp H
       obtain ⟨t114, A320, H⟩ := H
       replace H : (if t114 = true then ((link_nought.f t108 a0_6).bind fun t115 => (some t115)) else (some false)) = some r := H
       have A32 := Aside0.mk A320
       clear A320
       by_cases c33 : t114 = true
       ·subst c33
        have H1 : ((link_nought.f t108 a0_6).bind fun t115 => (some t115)) = some r := by rw [if_pos rfl] at H; exact H
        clear H
        have H := H1
        clear H1
        replace H := Option.bind_eq_some_iff.mp H
        obtain ⟨t115, A340, H⟩ := H
        replace H : (some t115) = some r := H
        have A34 := Aside0.mk A340
        clear A340
        obtain rfl := Option.some.inj H
        have hnb35 := NB110_103.out
        have hnc35 := NB103_110.out
        have hcz36_0 : wc.cell? ⟨gb110, 0, none⟩ = some (.bool t104) := (blk_cell BK110.out 0).trans rfl
        have hcz36_1 : wc.cell? ⟨gb110, 1, none⟩ = some (.bool t105) := (blk_cell BK110.out 1).trans rfl
        have hcz36_2 : wc.cell? ⟨gb110, 2, none⟩ = some (.bool t106) := (blk_cell BK110.out 2).trans rfl
        have hcz36_3 : wc.cell? ⟨gb110, 3, none⟩ = some (.bool t107) := (blk_cell BK110.out 3).trans rfl
        have hcz36_4 : wc.cell? ⟨gb110, 4, none⟩ = some (.bool t108) := (blk_cell BK110.out 4).trans rfl
        have hfz36_0 := blk_frozen BK110.out 0
        have hfz36_1 := blk_frozen BK110.out 1
        have hfz36_2 := blk_frozen BK110.out 2
        have hfz36_3 := blk_frozen BK110.out 3
        have hfz36_4 := blk_frozen BK110.out 4
        have hcz37_0 : wc.cell? ⟨gb103, 0, none⟩ = some (.int .i64 a0_0) := (blk_cell BK103.out 0).trans rfl
        have hcz37_1 : wc.cell? ⟨gb103, 1, none⟩ = some (.int .i64 a0_1) := (blk_cell BK103.out 1).trans rfl
        have hcz37_2 : wc.cell? ⟨gb103, 2, none⟩ = some (.int .i64 a0_2) := (blk_cell BK103.out 2).trans rfl
        have hcz37_3 : wc.cell? ⟨gb103, 3, none⟩ = some (.int .i64 a0_3) := (blk_cell BK103.out 3).trans rfl
        have hcz37_4 : wc.cell? ⟨gb103, 4, none⟩ = some (.int .i64 a0_4) := (blk_cell BK103.out 4).trans rfl
        have hcz37_5 : wc.cell? ⟨gb103, 5, none⟩ = some (.int .i64 a0_5) := (blk_cell BK103.out 5).trans rfl
        have hcz37_6 : wc.cell? ⟨gb103, 6, none⟩ = some (.int .i64 a0_6) := (blk_cell BK103.out 6).trans rfl
        have hfz37_0 := blk_frozen BK103.out 0
        have hfz37_1 := blk_frozen BK103.out 1
        have hfz37_2 := blk_frozen BK103.out 2
        have hfz37_3 := blk_frozen BK103.out 3
        have hfz37_4 := blk_frozen BK103.out 4
        have hfz37_5 := blk_frozen BK103.out 5
        have hfz37_6 := blk_frozen BK103.out 6
        go_wp2_with (first | ((with_reducible refine gate_callee (f := 21) rfl ?_); refine goesL_ (some 41) rfl rfl Tryd.func21 (by kernel_rfl) rfl #[.bool t104, .int .i64 a0_1] rfl (by (try simp only [List.map_toArray, List.map_cons, List.map_nil]); first | done | rfl | (simp only [List.length_drop, List.length_take]; rfl)) ?_; (with_reducible refine (link_nought.calls t104 a0_1 true _ A26.out).mono ?_); rintro e w' ⟨rfl, ⟨nd, rfl⟩⟩; refine ⟨_, rfl, ?_⟩) | (go_at_call 21; (with_reducible refine (link_nought.calls t105 a0_3 true _ A28.out).mono ?_); rintro e w' ⟨rfl, ⟨nd, rfl⟩⟩) | (go_at_call 21; (with_reducible refine (link_nought.calls t106 a0_4 true _ A30.out).mono ?_); rintro e w' ⟨rfl, ⟨nd, rfl⟩⟩) | (go_at_call 21; (with_reducible refine (link_nought.calls t107 a0_5 true _ A32.out).mono ?_); rintro e w' ⟨rfl, ⟨nd, rfl⟩⟩) | (go_at_call 21; (with_reducible refine (link_nought.calls t108 a0_6 t115 _ A34.out).mono ?_); rintro e w' ⟨rfl, ⟨nd, rfl⟩⟩))
        go_ret
        exact ⟨by first | rfl | (simp [errW_none, errW_some] <;> rfl) | (simp [*, errW_none, errW_some] <;> rfl), by repeat (first | (with_reducible first | exact HB.out | apply below_alloc | apply pw_below_drewN | apply below_drew1 | refine below_set ?_ GE103.out | refine below_set ?_ GE110.out) | exact HB.out)⟩
       ·replace c33 := Bool.eq_false_iff.mpr c33
        subst c33
        have H1 : (some false) = some r := by rw [if_neg (show ¬ (false = true) by decide)] at H; exact H
        clear H
        have H := H1
        clear H1
        obtain rfl := Option.some.inj H
        have hnb38 := NB110_103.out
        have hnc38 := NB103_110.out
        have hcz39_0 : wc.cell? ⟨gb110, 0, none⟩ = some (.bool t104) := (blk_cell BK110.out 0).trans rfl
        have hcz39_1 : wc.cell? ⟨gb110, 1, none⟩ = some (.bool t105) := (blk_cell BK110.out 1).trans rfl
        have hcz39_2 : wc.cell? ⟨gb110, 2, none⟩ = some (.bool t106) := (blk_cell BK110.out 2).trans rfl
        have hcz39_3 : wc.cell? ⟨gb110, 3, none⟩ = some (.bool t107) := (blk_cell BK110.out 3).trans rfl
        have hcz39_4 : wc.cell? ⟨gb110, 4, none⟩ = some (.bool t108) := (blk_cell BK110.out 4).trans rfl
        have hfz39_0 := blk_frozen BK110.out 0
        have hfz39_1 := blk_frozen BK110.out 1
        have hfz39_2 := blk_frozen BK110.out 2
        have hfz39_3 := blk_frozen BK110.out 3
        have hfz39_4 := blk_frozen BK110.out 4
        have hcz40_0 : wc.cell? ⟨gb103, 0, none⟩ = some (.int .i64 a0_0) := (blk_cell BK103.out 0).trans rfl
        have hcz40_1 : wc.cell? ⟨gb103, 1, none⟩ = some (.int .i64 a0_1) := (blk_cell BK103.out 1).trans rfl
        have hcz40_2 : wc.cell? ⟨gb103, 2, none⟩ = some (.int .i64 a0_2) := (blk_cell BK103.out 2).trans rfl
        have hcz40_3 : wc.cell? ⟨gb103, 3, none⟩ = some (.int .i64 a0_3) := (blk_cell BK103.out 3).trans rfl
        have hcz40_4 : wc.cell? ⟨gb103, 4, none⟩ = some (.int .i64 a0_4) := (blk_cell BK103.out 4).trans rfl
        have hcz40_5 : wc.cell? ⟨gb103, 5, none⟩ = some (.int .i64 a0_5) := (blk_cell BK103.out 5).trans rfl
        have hcz40_6 : wc.cell? ⟨gb103, 6, none⟩ = some (.int .i64 a0_6) := (blk_cell BK103.out 6).trans rfl
        have hfz40_0 := blk_frozen BK103.out 0
        have hfz40_1 := blk_frozen BK103.out 1
        have hfz40_2 := blk_frozen BK103.out 2
        have hfz40_3 := blk_frozen BK103.out 3
        have hfz40_4 := blk_frozen BK103.out 4
        have hfz40_5 := blk_frozen BK103.out 5
        have hfz40_6 := blk_frozen BK103.out 6
        go_wp2_with (first | ((with_reducible refine gate_callee (f := 21) rfl ?_); refine goesL_ (some 41) rfl rfl Tryd.func21 (by kernel_rfl) rfl #[.bool t104, .int .i64 a0_1] rfl (by (try simp only [List.map_toArray, List.map_cons, List.map_nil]); first | done | rfl | (simp only [List.length_drop, List.length_take]; rfl)) ?_; (with_reducible refine (link_nought.calls t104 a0_1 true _ A26.out).mono ?_); rintro e w' ⟨rfl, ⟨nd, rfl⟩⟩; refine ⟨_, rfl, ?_⟩) | (go_at_call 21; (with_reducible refine (link_nought.calls t105 a0_3 true _ A28.out).mono ?_); rintro e w' ⟨rfl, ⟨nd, rfl⟩⟩) | (go_at_call 21; (with_reducible refine (link_nought.calls t106 a0_4 true _ A30.out).mono ?_); rintro e w' ⟨rfl, ⟨nd, rfl⟩⟩) | (go_at_call 21; (with_reducible refine (link_nought.calls t107 a0_5 false _ A32.out).mono ?_); rintro e w' ⟨rfl, ⟨nd, rfl⟩⟩))
        go_ret
        exact ⟨by first | rfl | (simp [errW_none, errW_some] <;> rfl) | (simp [*, errW_none, errW_some] <;> rfl), by repeat (first | (with_reducible first | exact HB.out | apply below_alloc | apply pw_below_drewN | apply below_drew1 | refine below_set ?_ GE103.out | refine below_set ?_ GE110.out) | exact HB.out)⟩
      ·replace c31 := Bool.eq_false_iff.mpr c31
       subst c31
       have H1 : (some false) = some r := by rw [if_neg (show ¬ (false = true) by decide)] at H; exact H
       clear H
       have H := H1
       clear H1
       obtain rfl := Option.some.inj H
       have hnb41 := NB110_103.out
       have hnc41 := NB103_110.out
       have hcz42_0 : wc.cell? ⟨gb110, 0, none⟩ = some (.bool t104) := (blk_cell BK110.out 0).trans rfl
       have hcz42_1 : wc.cell? ⟨gb110, 1, none⟩ = some (.bool t105) := (blk_cell BK110.out 1).trans rfl
       have hcz42_2 : wc.cell? ⟨gb110, 2, none⟩ = some (.bool t106) := (blk_cell BK110.out 2).trans rfl
       have hcz42_3 : wc.cell? ⟨gb110, 3, none⟩ = some (.bool t107) := (blk_cell BK110.out 3).trans rfl
       have hcz42_4 : wc.cell? ⟨gb110, 4, none⟩ = some (.bool t108) := (blk_cell BK110.out 4).trans rfl
       have hfz42_0 := blk_frozen BK110.out 0
       have hfz42_1 := blk_frozen BK110.out 1
       have hfz42_2 := blk_frozen BK110.out 2
       have hfz42_3 := blk_frozen BK110.out 3
       have hfz42_4 := blk_frozen BK110.out 4
       have hcz43_0 : wc.cell? ⟨gb103, 0, none⟩ = some (.int .i64 a0_0) := (blk_cell BK103.out 0).trans rfl
       have hcz43_1 : wc.cell? ⟨gb103, 1, none⟩ = some (.int .i64 a0_1) := (blk_cell BK103.out 1).trans rfl
       have hcz43_2 : wc.cell? ⟨gb103, 2, none⟩ = some (.int .i64 a0_2) := (blk_cell BK103.out 2).trans rfl
       have hcz43_3 : wc.cell? ⟨gb103, 3, none⟩ = some (.int .i64 a0_3) := (blk_cell BK103.out 3).trans rfl
       have hcz43_4 : wc.cell? ⟨gb103, 4, none⟩ = some (.int .i64 a0_4) := (blk_cell BK103.out 4).trans rfl
       have hcz43_5 : wc.cell? ⟨gb103, 5, none⟩ = some (.int .i64 a0_5) := (blk_cell BK103.out 5).trans rfl
       have hcz43_6 : wc.cell? ⟨gb103, 6, none⟩ = some (.int .i64 a0_6) := (blk_cell BK103.out 6).trans rfl
       have hfz43_0 := blk_frozen BK103.out 0
       have hfz43_1 := blk_frozen BK103.out 1
       have hfz43_2 := blk_frozen BK103.out 2
       have hfz43_3 := blk_frozen BK103.out 3
       have hfz43_4 := blk_frozen BK103.out 4
       have hfz43_5 := blk_frozen BK103.out 5
       have hfz43_6 := blk_frozen BK103.out 6
       go_wp2_with (first | ((with_reducible refine gate_callee (f := 21) rfl ?_); refine goesL_ (some 41) rfl rfl Tryd.func21 (by kernel_rfl) rfl #[.bool t104, .int .i64 a0_1] rfl (by (try simp only [List.map_toArray, List.map_cons, List.map_nil]); first | done | rfl | (simp only [List.length_drop, List.length_take]; rfl)) ?_; (with_reducible refine (link_nought.calls t104 a0_1 true _ A26.out).mono ?_); rintro e w' ⟨rfl, ⟨nd, rfl⟩⟩; refine ⟨_, rfl, ?_⟩) | (go_at_call 21; (with_reducible refine (link_nought.calls t105 a0_3 true _ A28.out).mono ?_); rintro e w' ⟨rfl, ⟨nd, rfl⟩⟩) | (go_at_call 21; (with_reducible refine (link_nought.calls t106 a0_4 false _ A30.out).mono ?_); rintro e w' ⟨rfl, ⟨nd, rfl⟩⟩))
       go_ret
       exact ⟨by first | rfl | (simp [errW_none, errW_some] <;> rfl) | (simp [*, errW_none, errW_some] <;> rfl), by repeat (first | (with_reducible first | exact HB.out | apply below_alloc | apply pw_below_drewN | apply below_drew1 | refine below_set ?_ GE103.out | refine below_set ?_ GE110.out) | exact HB.out)⟩
     ·replace c29 := Bool.eq_false_iff.mpr c29
      subst c29
      have H1 : (some false) = some r := by rw [if_neg (show ¬ (false = true) by decide)] at H; exact H
      clear H
      have H := H1
      clear H1
      obtain rfl := Option.some.inj H
      have hnb44 := NB110_103.out
      have hnc44 := NB103_110.out
      have hcz45_0 : wc.cell? ⟨gb110, 0, none⟩ = some (.bool t104) := (blk_cell BK110.out 0).trans rfl
      have hcz45_1 : wc.cell? ⟨gb110, 1, none⟩ = some (.bool t105) := (blk_cell BK110.out 1).trans rfl
      have hcz45_2 : wc.cell? ⟨gb110, 2, none⟩ = some (.bool t106) := (blk_cell BK110.out 2).trans rfl
      have hcz45_3 : wc.cell? ⟨gb110, 3, none⟩ = some (.bool t107) := (blk_cell BK110.out 3).trans rfl
      have hcz45_4 : wc.cell? ⟨gb110, 4, none⟩ = some (.bool t108) := (blk_cell BK110.out 4).trans rfl
      have hfz45_0 := blk_frozen BK110.out 0
      have hfz45_1 := blk_frozen BK110.out 1
      have hfz45_2 := blk_frozen BK110.out 2
      have hfz45_3 := blk_frozen BK110.out 3
      have hfz45_4 := blk_frozen BK110.out 4
      have hcz46_0 : wc.cell? ⟨gb103, 0, none⟩ = some (.int .i64 a0_0) := (blk_cell BK103.out 0).trans rfl
      have hcz46_1 : wc.cell? ⟨gb103, 1, none⟩ = some (.int .i64 a0_1) := (blk_cell BK103.out 1).trans rfl
      have hcz46_2 : wc.cell? ⟨gb103, 2, none⟩ = some (.int .i64 a0_2) := (blk_cell BK103.out 2).trans rfl
      have hcz46_3 : wc.cell? ⟨gb103, 3, none⟩ = some (.int .i64 a0_3) := (blk_cell BK103.out 3).trans rfl
      have hcz46_4 : wc.cell? ⟨gb103, 4, none⟩ = some (.int .i64 a0_4) := (blk_cell BK103.out 4).trans rfl
      have hcz46_5 : wc.cell? ⟨gb103, 5, none⟩ = some (.int .i64 a0_5) := (blk_cell BK103.out 5).trans rfl
      have hcz46_6 : wc.cell? ⟨gb103, 6, none⟩ = some (.int .i64 a0_6) := (blk_cell BK103.out 6).trans rfl
      have hfz46_0 := blk_frozen BK103.out 0
      have hfz46_1 := blk_frozen BK103.out 1
      have hfz46_2 := blk_frozen BK103.out 2
      have hfz46_3 := blk_frozen BK103.out 3
      have hfz46_4 := blk_frozen BK103.out 4
      have hfz46_5 := blk_frozen BK103.out 5
      have hfz46_6 := blk_frozen BK103.out 6
      go_wp2_with (first | ((with_reducible refine gate_callee (f := 21) rfl ?_); refine goesL_ (some 41) rfl rfl Tryd.func21 (by kernel_rfl) rfl #[.bool t104, .int .i64 a0_1] rfl (by (try simp only [List.map_toArray, List.map_cons, List.map_nil]); first | done | rfl | (simp only [List.length_drop, List.length_take]; rfl)) ?_; (with_reducible refine (link_nought.calls t104 a0_1 true _ A26.out).mono ?_); rintro e w' ⟨rfl, ⟨nd, rfl⟩⟩; refine ⟨_, rfl, ?_⟩) | (go_at_call 21; (with_reducible refine (link_nought.calls t105 a0_3 false _ A28.out).mono ?_); rintro e w' ⟨rfl, ⟨nd, rfl⟩⟩))
      go_ret
      exact ⟨by first | rfl | (simp [errW_none, errW_some] <;> rfl) | (simp [*, errW_none, errW_some] <;> rfl), by repeat (first | (with_reducible first | exact HB.out | apply below_alloc | apply pw_below_drewN | apply below_drew1 | refine below_set ?_ GE103.out | refine below_set ?_ GE110.out) | exact HB.out)⟩
    ·replace c27 := Bool.eq_false_iff.mpr c27
     subst c27
     have H1 : (some false) = some r := by rw [if_neg (show ¬ (false = true) by decide)] at H; exact H
     clear H
     have H := H1
     clear H1
     obtain rfl := Option.some.inj H
     have hnb47 := NB110_103.out
     have hnc47 := NB103_110.out
     have hcz48_0 : wc.cell? ⟨gb110, 0, none⟩ = some (.bool t104) := (blk_cell BK110.out 0).trans rfl
     have hcz48_1 : wc.cell? ⟨gb110, 1, none⟩ = some (.bool t105) := (blk_cell BK110.out 1).trans rfl
     have hcz48_2 : wc.cell? ⟨gb110, 2, none⟩ = some (.bool t106) := (blk_cell BK110.out 2).trans rfl
     have hcz48_3 : wc.cell? ⟨gb110, 3, none⟩ = some (.bool t107) := (blk_cell BK110.out 3).trans rfl
     have hcz48_4 : wc.cell? ⟨gb110, 4, none⟩ = some (.bool t108) := (blk_cell BK110.out 4).trans rfl
     have hfz48_0 := blk_frozen BK110.out 0
     have hfz48_1 := blk_frozen BK110.out 1
     have hfz48_2 := blk_frozen BK110.out 2
     have hfz48_3 := blk_frozen BK110.out 3
     have hfz48_4 := blk_frozen BK110.out 4
     have hcz49_0 : wc.cell? ⟨gb103, 0, none⟩ = some (.int .i64 a0_0) := (blk_cell BK103.out 0).trans rfl
     have hcz49_1 : wc.cell? ⟨gb103, 1, none⟩ = some (.int .i64 a0_1) := (blk_cell BK103.out 1).trans rfl
     have hcz49_2 : wc.cell? ⟨gb103, 2, none⟩ = some (.int .i64 a0_2) := (blk_cell BK103.out 2).trans rfl
     have hcz49_3 : wc.cell? ⟨gb103, 3, none⟩ = some (.int .i64 a0_3) := (blk_cell BK103.out 3).trans rfl
     have hcz49_4 : wc.cell? ⟨gb103, 4, none⟩ = some (.int .i64 a0_4) := (blk_cell BK103.out 4).trans rfl
     have hcz49_5 : wc.cell? ⟨gb103, 5, none⟩ = some (.int .i64 a0_5) := (blk_cell BK103.out 5).trans rfl
     have hcz49_6 : wc.cell? ⟨gb103, 6, none⟩ = some (.int .i64 a0_6) := (blk_cell BK103.out 6).trans rfl
     have hfz49_0 := blk_frozen BK103.out 0
     have hfz49_1 := blk_frozen BK103.out 1
     have hfz49_2 := blk_frozen BK103.out 2
     have hfz49_3 := blk_frozen BK103.out 3
     have hfz49_4 := blk_frozen BK103.out 4
     have hfz49_5 := blk_frozen BK103.out 5
     have hfz49_6 := blk_frozen BK103.out 6
     go_wp2_with (first | ((with_reducible refine gate_callee (f := 21) rfl ?_); refine goesL_ (some 41) rfl rfl Tryd.func21 (by kernel_rfl) rfl #[.bool t104, .int .i64 a0_1] rfl (by (try simp only [List.map_toArray, List.map_cons, List.map_nil]); first | done | rfl | (simp only [List.length_drop, List.length_take]; rfl)) ?_; (with_reducible refine (link_nought.calls t104 a0_1 false _ A26.out).mono ?_); rintro e w' ⟨rfl, ⟨nd, rfl⟩⟩; refine ⟨_, rfl, ?_⟩))
     go_ret
     exact ⟨by first | rfl | (simp [errW_none, errW_some] <;> rfl) | (simp [*, errW_none, errW_some] <;> rfl), by repeat (first | (with_reducible first | exact HB.out | apply below_alloc | apply pw_below_drewN | apply below_drew1 | refine below_set ?_ GE103.out | refine below_set ?_ GE110.out) | exact HB.out)⟩
def round_clock.f (a0 : Int) : Option (Int) := some (mn (mx a0 0) 1073741823)
theorem round_clock.calls (a0 : Int) (r : Int) (w : World) (h : round_clock.f a0 = some r) :
  Calls Tryd.prog 34 #[.int .i64 a0] w fun e w' => e = .returned (.int .i64 r) ∧ Below w.heap.size w w' := by
 have HB := Aside0.mk (Below.refl w.heap.size w)
 have H : (some (mn (mx a0 0) 1073741823)) = some r := h
 clear h
 obtain ⟨ji2, hji2⟩ : ∃ j_ : Int, (mx a0 0) = j_ := ⟨_, rfl⟩
 replace H : (some (mn (ji2) 1073741823)) = some r := by first | (rw [hji2] at H; exact H) | (simp only [hji2] at H ⊢; exact H)
 (try (have hji2l : 0 ≤ ji2 := by (rw [← hji2]; unfold mx; (repeat' split) <;> omega)))
 (try (have hji2m : 0 ≤ ji2 := by omega))
 have hji2_ : (if a0 < 0 then 0 else a0) = ji2 := hji2
 obtain ⟨ji3, hji3⟩ : ∃ j_ : Int, (mn (ji2) 1073741823) = j_ := ⟨_, rfl⟩
 replace H : (some ji3) = some r := by first | (rw [hji3] at H; exact H) | (simp only [hji3] at H ⊢; exact H)
 have hji3_ : (if 1073741823 < (ji2) then 1073741823 else (ji2)) = ji3 := hji3
 obtain rfl := Option.some.inj H
 go_enter Tryd.func34, Tryd.ntmps34
 go_wp2
 go_ret
 exact ⟨by first | rfl | (simp [errW_none, errW_some] <;> rfl) | (simp only [← hji2, ← hji3]; first | rfl | (simp [errW_none, errW_some] <;> rfl)) | (simp [*, errW_none, errW_some] <;> rfl), by repeat (first | (with_reducible first | exact HB.out | apply below_alloc | apply pw_below_drewN | apply below_drew1) | exact HB.out)⟩
def round_Plus.l0 : Nat → Int → List Int → Int → Int → Option (Int)
 | 0, _, _, _, _ => none
 | k + 1, x3, x6, x7, x8 => if x8 < x7 then (if 0 ≤ x8 then (if x8 < (x6.length : Int) then ((round_clock.f (rd x6 x8)).bind fun t117 => ((round_clock.f (wrap64 (x3 + t117))).bind fun t118 => (round_Plus.l0 k t118 x6 x7 (wrap64 (x8 + 1))))) else (none)) else (none)) else (some x3)
def round_Plus.f (k : Nat) (l0 : List Int) : Option (Int) := round_Plus.l0 k 0 l0 (l0.length : Int) 0
theorem round_Plus.calls (k : Nat) (A0 : Option Addr) (c0 : Nat) (l0 : List Int) (r : Int) (w : World) (hr0 : Kd.C (Kd.int .i64) w A0 l0.length l0) (hc0 : l0.length ≤ c0) (h : round_Plus.f k l0 = some r) :
  Calls Tryd.prog 27 #[.slice A0 l0.length c0] w fun e w' => e = .returned (.int .i64 r) ∧ Below w.heap.size w w' := by
 have HR0 := Aside0.mk hr0
 have HC0 := Aside0.mk hc0
 clear hr0 hc0
 have HB := Aside0.mk (Below.refl w.heap.size w)
 have H : (round_Plus.l0 k 0 l0 (l0.length : Int) 0) = some r := h
 clear h
 have H' := Aside0.mk H
 clear H
 go_enter Tryd.func27, Tryd.ntmps27
 go_wp2
 go_loopg [3, 8] k (fun kq v3 v8 w' => ∃ (x3_1 : Int) (x8_1 : Int), v3 = .int .i64 x3_1 ∧ v8 = .int .i64 x8_1 ∧ Aside0 (round_Plus.l0 kq x3_1 l0 (l0.length : Int) x8_1 = some r) ∧ Aside0 (kq ≤ k) ∧ Aside0 (Below w.heap.size w w'))
 case atStart => exact ⟨(0), (0), (by first | rfl | (simp; done) | (simp [*]; done)), (by first | rfl | (simp; done) | (simp [*]; done)), H', ⟨Nat.le_refl _⟩, ⟨by repeat (first | (with_reducible first | exact HB.out | apply below_alloc | apply pw_below_drewN | apply below_drew1) | exact HB.out)⟩⟩
 case round =>
  clear H'
  obtain ⟨x3_1, x8_1, rfl, rfl, HA, HK1, HB⟩ := hrel
  cases gk with
  | zero => exact absurd HA.out (by simp [round_Plus.l0])
  | succ k1 =>
   have H := HA.out
   clear HA
   simp only [round_Plus.l0] at H
   by_cases c2 : x8_1 < (l0.length : Int)
   ·rw [if_pos c2] at H
    have c2b0 : decide (x8_1 < (l0.length : Int)) = true := decide_eq_true c2
    clear c2
    by_cases c3 : 0 ≤ x8_1
    ·rw [if_pos c3] at H
     have c3b0 : decide (0 ≤ x8_1) = true := decide_eq_true c3
     clear c3
     by_cases c4 : x8_1 < (l0.length : Int)
     ·rw [if_pos c4] at H
      have c4b0 : decide (x8_1 < (l0.length : Int)) = true := decide_eq_true c4
      clear c4
      replace H := Option.bind_eq_some_iff.mp H
      obtain ⟨t117, A50, H⟩ := H
      replace H : ((round_clock.f (wrap64 (x3_1 + t117))).bind fun t118 => (round_Plus.l0 k1 t118 l0 (l0.length : Int) (wrap64 (x8_1 + 1)))) = some r := H
      have A5 := Aside0.mk A50
      clear A50
      replace H := Option.bind_eq_some_iff.mp H
      obtain ⟨t118, A60, H⟩ := H
      replace H : (round_Plus.l0 k1 t118 l0 (l0.length : Int) (wrap64 (x8_1 + 1))) = some r := H
      have A6 := Aside0.mk A60
      clear A60
      have H' := Aside0.mk H
      clear H
      have p116 : 0 ≤ (x8_1 : Int) := of_decide_eq_true (by first | (with_reducible assumption) | assumption)
      have q116 : x8_1 < (l0.length : Int) := of_decide_eq_true (by first | (with_reducible assumption) | assumption)
      obtain ⟨ad116, e116, hx116_0⟩ := Kd.at_int HR0.out x8_1 p116 q116
      cases e116
      replace hx116_0 := (HB.out.cell (World.block_lt_of_cell? w _ hx116_0)).trans hx116_0
      replace p116 := eq_true p116
      replace q116 := eq_true q116
      go_wp2_with (first | ((with_reducible refine gate_callee (f := 34) rfl ?_); refine goesL_ (some 14) rfl rfl Tryd.func34 (by kernel_rfl) rfl #[.int .i64 (rd l0 x8_1)] rfl (by (try simp only [List.map_toArray, List.map_cons, List.map_nil]); first | done | rfl | (simp only [List.length_drop, List.length_take]; rfl)) ?_; (with_reducible refine (round_clock.calls (rd l0 x8_1) t117 _ A5.out).mono ?_); rintro e w7 ⟨rfl, hb⟩; refine ⟨_, rfl, ?_⟩; have n0_ := Aside0.mk (below_step (by repeat (first | (with_reducible first | exact HB.out | apply below_alloc | apply pw_below_drewN | apply below_drew1) | exact HB.out)) hb); clear HB; have HB := n0_; clear n0_; (try clear hb); (try clear hb2); (try clear hk); (try clear hi)) | ((with_reducible refine gate_callee (f := 34) rfl ?_); refine goesL_ (some 16) rfl rfl Tryd.func34 (by kernel_rfl) rfl #[.int .i64 (wrap64 (x3_1 + t117))] rfl (by (try simp only [List.map_toArray, List.map_cons, List.map_nil]); first | done | rfl | (simp only [List.length_drop, List.length_take]; rfl)) ?_; (with_reducible refine (round_clock.calls (wrap64 (x3_1 + t117)) t118 _ A6.out).mono ?_); rintro e w8 ⟨rfl, hb⟩; refine ⟨_, rfl, ?_⟩; have n0_ := Aside0.mk (below_step (by repeat (first | (with_reducible first | exact HB.out | apply below_alloc | apply pw_below_drewN | apply below_drew1) | exact HB.out)) hb); clear HB; have HB := n0_; clear n0_; (try clear hb); (try clear hb2); (try clear hk); (try clear hi)))
      go_roundg k1
      case measure => have := HK1.out; omega
      case rel => exact ⟨(t118), (wrap64 (x8_1 + 1)), (by first | rfl | (simp; done) | (simp [*]; done)), (by first | rfl | (simp; done) | (simp [*]; done)), H', ⟨by have := HK1.out; omega⟩, ⟨by repeat (first | (with_reducible first | exact HB.out | apply below_alloc | apply pw_below_drewN | apply below_drew1) | exact HB.out)⟩⟩
     ·rw [if_neg c4] at H
      exact absurd H (by simp)
    ·rw [if_neg c3] at H
     exact absurd H (by simp)
   ·rw [if_neg c2] at H
    have c2b0 : decide (x8_1 < (l0.length : Int)) = false := decide_eq_false c2
    clear c2
    obtain rfl := Option.some.inj H
    go_wp2
    go_ret
    exact ⟨by first | rfl | (simp [errW_none, errW_some] <;> rfl) | (simp [*, errW_none, errW_some] <;> rfl), by repeat (first | (with_reducible first | exact HB.out | apply below_alloc | apply pw_below_drewN | apply below_drew1) | exact HB.out)⟩
def backoff_Wait.l0 : Nat → Int → Int → Int → Int → Option (Int)
 | 0, _, _, _, _ => none
 | k + 1, x0, x1, x15, x16 => if x16 < x15 then (backoff_Wait.l0 k (mn (wrap64 (x0 * 2)) 1073741823) x1 x15 (wrap64 (x16 + 1))) else (some (mn x0 x1))
def backoff_Wait.f (k : Nat) (a0 : Int) (a1 : Int) (a2 : Int) : Option (Int) := (round_Plus.f k (([a0] : List Int))).bind fun t122 => ((round_Plus.f k (([a1] : List Int))).bind fun t126 => (backoff_Wait.l0 k t122 t126 (mn (mx a2 0) 31) 0))
theorem backoff_Wait.calls (k : Nat) (a0 : Int) (a1 : Int) (a2 : Int) (r : Int) (w : World) (h : backoff_Wait.f k a0 a1 a2 = some r) :
  Calls Tryd.prog 28 #[.int .i64 a0, .int .i64 a1, .int .i64 a2] w fun e w' => e = .returned (.int .i64 r) ∧ Below w.heap.size w w' := by
 have HB := Aside0.mk (Below.refl w.heap.size w)
 have H : ((round_Plus.f k (([a0] : List Int))).bind fun t122 => ((round_Plus.f k (([a1] : List Int))).bind fun t126 => (backoff_Wait.l0 k t122 t126 (mn (mx a2 0) 31) 0))) = some r := h
 clear h
 obtain ⟨y119, hy119⟩ : ∃ y_ : List Int, y_ = (([a0] : List Int)) := ⟨_, rfl⟩
 replace H : ((round_Plus.f k y119).bind fun t122 => ((round_Plus.f k (([a1] : List Int))).bind fun t126 => (backoff_Wait.l0 k t122 t126 (mn (mx a2 0) 31) 0))) = some r := by first | (rw [hy119]; with_reducible exact H) | (have H2_ := (Option.bind_some _ _).symm.trans H; rw [hy119]; with_reducible exact H2_) | (have H2_ := (Option.bind_some _ _).symm.trans H; with_reducible exact H2_) | with_reducible exact H | (rw [hy119]; exact H) | exact H
 have Ny119 := Aside0.mk hy119
 clear hy119
 replace H := Option.bind_eq_some_iff.mp H
 obtain ⟨t122, A40, H⟩ := H
 replace H : ((round_Plus.f k (([a1] : List Int))).bind fun t126 => (backoff_Wait.l0 k t122 t126 (mn (mx a2 0) 31) 0)) = some r := H
 have A4 := Aside0.mk A40
 clear A40
 obtain ⟨y123, hy123⟩ : ∃ y_ : List Int, y_ = (([a1] : List Int)) := ⟨_, rfl⟩
 replace H : ((round_Plus.f k y123).bind fun t126 => (backoff_Wait.l0 k t122 t126 (mn (mx a2 0) 31) 0)) = some r := by first | (rw [hy123]; with_reducible exact H) | (have H2_ := (Option.bind_some _ _).symm.trans H; rw [hy123]; with_reducible exact H2_) | (have H2_ := (Option.bind_some _ _).symm.trans H; with_reducible exact H2_) | with_reducible exact H | (rw [hy123]; exact H) | exact H
 have Ny123 := Aside0.mk hy123
 clear hy123
 replace H := Option.bind_eq_some_iff.mp H
 obtain ⟨t126, A50, H⟩ := H
 replace H : (backoff_Wait.l0 k t122 t126 (mn (mx a2 0) 31) 0) = some r := H
 have A5 := Aside0.mk A50
 clear A50
 obtain ⟨ji6, hji6⟩ : ∃ j_ : Int, (mx a2 0) = j_ := ⟨_, rfl⟩
 replace H : (backoff_Wait.l0 k t122 t126 (mn (ji6) 31) 0) = some r := by first | (rw [hji6] at H; exact H) | (simp only [hji6] at H ⊢; exact H)
 (try rw [hji6] at A4)
 (try rw [hji6] at A5)
 (try (have hji6l : 0 ≤ ji6 := by (rw [← hji6]; unfold mx; (repeat' split) <;> omega)))
 (try (have hji6m : 0 ≤ ji6 := by omega))
 have hji6_ : (if a2 < 0 then 0 else a2) = ji6 := hji6
 obtain ⟨ji7, hji7⟩ : ∃ j_ : Int, (mn (ji6) 31) = j_ := ⟨_, rfl⟩
 replace H : (backoff_Wait.l0 k t122 t126 ji7 0) = some r := by first | (rw [hji7] at H; exact H) | (simp only [hji7] at H ⊢; exact H)
 (try rw [hji7] at A4)
 (try rw [hji7] at A5)
 have hji7_ : (if 31 < (ji6) then 31 else (ji6)) = ji7 := hji7
 have H' := Aside0.mk H
 clear H
 go_enter Tryd.func28, Tryd.ntmps28
 go_wp2_with (first | ((with_reducible refine gate_dst (N := 8) rfl ?_); refine Kd.R_lit (Kd.int .i64) _ 3 ?hg (N := 8) ?hd (xs := ([a0] : List Int)) (inner := [.int .i64 a0]) (ok := fun _ => True) (okp := fun _ => True) ?hr ?hp (fun _ hk => hk) trivial (Below.refl _ _) (Nat.le_refl _) (by simp) ?_; (case hd => rfl); (case hg => rfl); (case hr => first | (go_simp; done) | (go_simp; rfl)); (case hp => exact (Reps.one (show Kd.M (Kd.int .i64) _ _ _ a0 [.int .i64 a0] from rfl) (Reps.none _ _))); intro v120 w8 ho9 hb hg_ hnew_; clear hg_ hnew_; (first | rw [← Ny119.out] at ho9 | (simp only [Int.reduceToNat] at ho9; rw [← Ny119.out] at ho9)); have n0_ := Aside0.mk (Kd.R_lower ho9 (below_size (by repeat (first | (with_reducible first | exact HB.out | apply below_alloc | apply pw_below_drewN | apply below_drew1) | exact HB.out)))); have n1_ := Aside0.mk (below_step (by repeat (first | (with_reducible first | exact HB.out | apply below_alloc | apply pw_below_drewN | apply below_drew1) | exact HB.out)) hb); clear HB; have HO121 := n0_; have HB := n1_; clear n0_ n1_; clear hb ho9; obtain ⟨Ao10, co10, eo10⟩ := Kd.R_slice HO121.out; subst eo10) | ((with_reducible refine gate_callee (f := 27) rfl ?_); refine goesL_ (some 9) rfl rfl Tryd.func27 (by kernel_rfl) rfl #[.slice Ao10 y119.length co10] rfl (by (try simp only [List.map_toArray, List.map_cons, List.map_nil]); first | done | rfl | (simp only [List.length_drop, List.length_take]; rfl)) ?_; (with_reducible refine (round_Plus.calls k _ _ y119 t122 _ ?side1 ?side2 A4.out).mono ?_); (case side1 => repeat (first | exact (Kd.R_reads' HO121.out).2.2 | (with_reducible refine Kd.C_alloc ?_ _) | (with_reducible refine Kd.C_drewN ?_ _) | (with_reducible refine Kd.C_drew ?_))); (case side2 => exact (Kd.R_reads' HO121.out).2.1); rintro e w11 ⟨rfl, hb⟩; refine ⟨_, rfl, ?_⟩; have n0_ := Aside0.mk (Kd.R_below (by (with_reducible repeat (first | apply Kd.R_alloc | apply Kd.R_drewN | apply Kd.R_drew)); exact HO121.out) hb); have n1_ := Aside0.mk (below_step (by repeat (first | (with_reducible first | exact HB.out | apply below_alloc | apply pw_below_drewN | apply below_drew1) | exact HB.out)) hb); clear HO121; clear HB; have HO121 := n0_; have HB := n1_; clear n0_ n1_; (try clear hb); (try clear hb2); (try clear hk); (try clear hi)) | ((with_reducible refine gate_dst (N := 11) rfl ?_); refine Kd.R_lit (Kd.int .i64) _ 3 ?hg (N := 11) ?hd (xs := ([a1] : List Int)) (inner := [.int .i64 a1]) (ok := fun _ => True) (okp := fun _ => True) ?hr ?hp (fun _ hk => hk) trivial (Below.refl _ _) (Nat.le_refl _) (by simp) ?_; (case hd => rfl); (case hg => rfl); (case hr => first | (go_simp; done) | (go_simp; rfl)); (case hp => exact (Reps.one (show Kd.M (Kd.int .i64) _ _ _ a1 [.int .i64 a1] from rfl) (Reps.none _ _))); intro v124 w12 ho13 hb hg_ hnew_; clear hg_ hnew_; (first | rw [← Ny123.out] at ho13 | (simp only [Int.reduceToNat] at ho13; rw [← Ny123.out] at ho13)); have n0_ := Aside0.mk (Kd.R_elder' (by (with_reducible repeat (first | apply Kd.R_alloc | apply Kd.R_drewN | apply Kd.R_drew)); exact HO121.out) (Kd.R_base ho13) hb); have n1_ := Aside0.mk (Kd.R_lower (Kd.R_new' ho13 (Kd.R_lt (by (with_reducible repeat (first | apply Kd.R_alloc | apply Kd.R_drewN | apply Kd.R_drew)); exact HO121.out))) (below_size (by repeat (first | (with_reducible first | exact HB.out | apply below_alloc | apply pw_below_drewN | apply below_drew1) | exact HB.out)))); have n2_ := Aside0.mk (below_step (by repeat (first | (with_reducible first | exact HB.out | apply below_alloc | apply pw_below_drewN | apply below_drew1) | exact HB.out)) hb); clear HO121; clear HB; have HO121 := n0_; have HO125 := n1_; have HB := n2_; clear n0_ n1_ n2_; clear hb ho13; obtain ⟨Ao14, co14, eo14⟩ := Kd.R_slice HO125.out; subst eo14) | ((with_reducible refine gate_callee (f := 27) rfl ?_); refine goesL_ (some 12) rfl rfl Tryd.func27 (by kernel_rfl) rfl #[.slice Ao14 y123.length co14] rfl (by (try simp only [List.map_toArray, List.map_cons, List.map_nil]); first | done | rfl | (simp only [List.length_drop, List.length_take]; rfl)) ?_; (with_reducible refine (round_Plus.calls k _ _ y123 t126 _ ?side1 ?side2 A5.out).mono ?_); (case side1 => repeat (first | exact (Kd.R_reads' HO125.out).2.2 | (with_reducible refine Kd.C_alloc ?_ _) | (with_reducible refine Kd.C_drewN ?_ _) | (with_reducible refine Kd.C_drew ?_))); (case side2 => exact (Kd.R_reads' HO125.out).2.1); rintro e w15 ⟨rfl, hb⟩; refine ⟨_, rfl, ?_⟩; have n0_ := Aside0.mk (Kd.R_below (by (with_reducible repeat (first | apply Kd.R_alloc | apply Kd.R_drewN | apply Kd.R_drew)); exact HO121.out) hb); have n1_ := Aside0.mk (Kd.R_below (by (with_reducible repeat (first | apply Kd.R_alloc | apply Kd.R_drewN | apply Kd.R_drew)); exact HO125.out) hb); have n2_ := Aside0.mk (below_step (by repeat (first | (with_reducible first | exact HB.out | apply below_alloc | apply pw_below_drewN | apply below_drew1) | exact HB.out)) hb); clear HO121; clear HO125; clear HB; have HO121 := n0_; have HO125 := n1_; have HB := n2_; clear n0_ n1_ n2_; (try clear hb); (try clear hb2); (try clear hk); (try clear hi)))
 go_loopg [0, 16] k (fun kq v0 v16 w' => ∃ (x0_1 : Int) (x16_1 : Int), v0 = .int .i64 x0_1 ∧ v16 = .int .i64 x16_1 ∧ Aside0 (backoff_Wait.l0 kq x0_1 t126 ji7 x16_1 = some r) ∧ Aside0 (kq ≤ k) ∧ Aside0 (Below w.heap.size w w'))
 case atStart => exact ⟨(t122), (0), (by first | rfl | (simp; done) | (simp [*]; done)), (by first | rfl | (simp; done) | (simp [*]; done)), H', ⟨Nat.le_refl _⟩, ⟨by repeat (first | (with_reducible first | exact HB.out | apply below_alloc | apply pw_below_drewN | apply below_drew1) | exact HB.out)⟩⟩
 case round =>
  clear H'
  try clear c2
  try clear p2
  obtain ⟨x0_1, x16_1, rfl, rfl, HA, HK1, HB⟩ := hrel
  cases gk with
  | zero => exact absurd HA.out (by simp [backoff_Wait.l0])
  | succ k1 =>
   have H := HA.out
   clear HA
   simp only [backoff_Wait.l0] at H
   by_cases c16 : x16_1 < ji7
   ·rw [if_pos c16] at H
    have c16b0 : decide (x16_1 < ji7) = true := decide_eq_true c16
    clear c16
    obtain ⟨ji17, hji17⟩ : ∃ j_ : Int, (mn (wrap64 (x0_1 * 2)) 1073741823) = j_ := ⟨_, rfl⟩
    replace H : (backoff_Wait.l0 k1 ji17 t126 ji7 (wrap64 (x16_1 + 1))) = some r := by first | (rw [hji17] at H; exact H) | (simp only [hji17] at H ⊢; exact H)
    have hji17_ : (if 1073741823 < (wrap64 (x0_1 * 2)) then 1073741823 else (wrap64 (x0_1 * 2))) = ji17 := hji17
    have H' := Aside0.mk H
    clear H
    go_wp2
    go_roundg k1
    case measure => have := HK1.out; omega
    case rel => exact ⟨(ji17), (wrap64 (x16_1 + 1)), (by first | rfl | (simp; done) | (simp only [← hji17] <;> (first | rfl | simp)) | (simp [*]; done)), (by first | rfl | (simp; done) | (simp [*]; done)), H', ⟨by have := HK1.out; omega⟩, ⟨by repeat (first | (with_reducible first | exact HB.out | apply below_alloc | apply pw_below_drewN | apply below_drew1) | exact HB.out)⟩⟩
   ·rw [if_neg c16] at H
    have c16b0 : decide (x16_1 < ji7) = false := decide_eq_false c16
    clear c16
    obtain ⟨ji18, hji18⟩ : ∃ j_ : Int, (mn x0_1 t126) = j_ := ⟨_, rfl⟩
    replace H : (some ji18) = some r := by first | (rw [hji18] at H; exact H) | (simp only [hji18] at H ⊢; exact H)
    have hji18_ : (if t126 < x0_1 then t126 else x0_1) = ji18 := hji18
    obtain rfl := Option.some.inj H
    go_wp2
    go_ret
    exact ⟨by first | rfl | (simp [errW_none, errW_some] <;> rfl) | (simp only [← hji6, ← hji7, ← hji18]; first | rfl | (simp [errW_none, errW_some] <;> rfl)) | (simp [*, errW_none, errW_some] <;> rfl), by repeat (first | (with_reducible first | exact HB.out | apply below_alloc | apply pw_below_drewN | apply below_drew1) | exact HB.out)⟩
def backoff_Jitter.f (k : Nat) (a0 : Int) (a1 : Int) : Option (Int) := (round_Plus.f k (([a1] : List Int))).bind fun t130 => (if (wrap64 (t130 + 1)) = 0 then (none) else (some ((mx a0 0) % (wrap64 (t130 + 1)))))
theorem backoff_Jitter.calls (k : Nat) (a0 : Int) (a1 : Int) (r : Int) (w : World) (h : backoff_Jitter.f k a0 a1 = some r) :
  Calls Tryd.prog 29 #[.int .i64 a0, .int .i64 a1] w fun e w' => e = .returned (.int .i64 r) ∧ Below w.heap.size w w' := by
 have HB := Aside0.mk (Below.refl w.heap.size w)
 have H : ((round_Plus.f k (([a1] : List Int))).bind fun t130 => (if (wrap64 (t130 + 1)) = 0 then (none) else (some ((mx a0 0) % (wrap64 (t130 + 1)))))) = some r := h
 clear h
 obtain ⟨ji3, hji3⟩ : ∃ j_ : Int, (mx a0 0) = j_ := ⟨_, rfl⟩
 replace H : ((round_Plus.f k (([a1] : List Int))).bind fun t130 => (if (wrap64 (t130 + 1)) = 0 then (none) else (some ((ji3) % (wrap64 (t130 + 1)))))) = some r := by first | (rw [hji3] at H; exact H) | (simp only [hji3] at H ⊢; exact H)
 (try (have hji3l : 0 ≤ ji3 := by (rw [← hji3]; unfold mx; (repeat' split) <;> omega)))
 (try (have hji3m : 0 ≤ ji3 := by omega))
 have hji3_ : (if a0 < 0 then 0 else a0) = ji3 := hji3
 obtain ⟨y127, hy127⟩ : ∃ y_ : List Int, y_ = (([a1] : List Int)) := ⟨_, rfl⟩
 replace H : ((round_Plus.f k y127).bind fun t130 => (if (wrap64 (t130 + 1)) = 0 then (none) else (some ((ji3) % (wrap64 (t130 + 1)))))) = some r := by first | (rw [hy127]; with_reducible exact H) | (have H2_ := (Option.bind_some _ _).symm.trans H; rw [hy127]; with_reducible exact H2_) | (have H2_ := (Option.bind_some _ _).symm.trans H; with_reducible exact H2_) | with_reducible exact H | (rw [hy127]; exact H) | exact H
 have Ny127 := Aside0.mk hy127
 clear hy127
 replace H := Option.bind_eq_some_iff.mp H
 obtain ⟨t130, A40, H⟩ := H
 replace H : (if (wrap64 (t130 + 1)) = 0 then (none) else (some ((ji3) % (wrap64 (t130 + 1))))) = some r := H
 have A4 := Aside0.mk A40
 clear A40
 by_cases c5 : (wrap64 (t130 + 1)) = 0
 ·rw [if_pos c5] at H
  exact absurd H (by simp)
 ·rw [if_neg c5] at H
  have c5b0 : ((wrap64 (t130 + 1)) == 0) = false := beq_eq_false_iff_ne.mpr c5
  have c5b1 : ((wrap64 (t130 + 1)) != 0) = true := bne_iff_ne.mpr c5
  obtain rfl := Option.some.inj H
  go_enter Tryd.func29, Tryd.ntmps29
  go_wp2_with (first | ((with_reducible refine gate_dst (N := 8) rfl ?_); refine Kd.R_lit (Kd.int .i64) _ 3 ?hg (N := 8) ?hd (xs := ([a1] : List Int)) (inner := [.int .i64 a1]) (ok := fun _ => True) (okp := fun _ => True) ?hr ?hp (fun _ hk => hk) trivial (Below.refl _ _) (Nat.le_refl _) (by simp) ?_; (case hd => rfl); (case hg => rfl); (case hr => first | (go_simp; done) | (go_simp; rfl)); (case hp => exact (Reps.one (show Kd.M (Kd.int .i64) _ _ _ a1 [.int .i64 a1] from rfl) (Reps.none _ _))); intro v128 w6 ho7 hb hg_ hnew_; clear hg_ hnew_; (first | rw [← Ny127.out] at ho7 | (simp only [Int.reduceToNat] at ho7; rw [← Ny127.out] at ho7)); have n0_ := Aside0.mk (Kd.R_lower ho7 (below_size (by repeat (first | (with_reducible first | exact HB.out | apply below_alloc | apply pw_below_drewN | apply below_drew1) | exact HB.out)))); have n1_ := Aside0.mk (below_step (by repeat (first | (with_reducible first | exact HB.out | apply below_alloc | apply pw_below_drewN | apply below_drew1) | exact HB.out)) hb); clear HB; have HO129 := n0_; have HB := n1_; clear n0_ n1_; clear hb ho7; obtain ⟨Ao8, co8, eo8⟩ := Kd.R_slice HO129.out; subst eo8) | ((with_reducible refine gate_callee (f := 27) rfl ?_); refine goesL_ (some 9) rfl rfl Tryd.func27 (by kernel_rfl) rfl #[.slice Ao8 y127.length co8] rfl (by (try simp only [List.map_toArray, List.map_cons, List.map_nil]); first | done | rfl | (simp only [List.length_drop, List.length_take]; rfl)) ?_; (with_reducible refine (round_Plus.calls k _ _ y127 t130 _ ?side1 ?side2 A4.out).mono ?_); (case side1 => repeat (first | exact (Kd.R_reads' HO129.out).2.2 | (with_reducible refine Kd.C_alloc ?_ _) | (with_reducible refine Kd.C_drewN ?_ _) | (with_reducible refine Kd.C_drew ?_))); (case side2 => exact (Kd.R_reads' HO129.out).2.1); rintro e w9 ⟨rfl, hb⟩; refine ⟨_, rfl, ?_⟩; have n0_ := Aside0.mk (Kd.R_below (by (with_reducible repeat (first | apply Kd.R_alloc | apply Kd.R_drewN | apply Kd.R_drew)); exact HO129.out) hb); have n1_ := Aside0.mk (below_step (by repeat (first | (with_reducible first | exact HB.out | apply below_alloc | apply pw_below_drewN | apply below_drew1) | exact HB.out)) hb); clear HO129; clear HB; have HO129 := n0_; have HB := n1_; clear n0_ n1_; (try clear hb); (try clear hb2); (try clear hk); (try clear hi)))
  go_ret
  exact ⟨by first | rfl | (simp [errW_none, errW_some] <;> rfl) | (simp only [← hji3]; first | rfl | (simp [errW_none, errW_some] <;> rfl)) | (simp [*, errW_none, errW_some] <;> rfl), by repeat (first | (with_reducible first | exact HB.out | apply below_alloc | apply pw_below_drewN | apply below_drew1) | exact HB.out)⟩
end Go.Proofs.YthljanmfanppdaaDoor.KLk
end
section
namespace Go.Proofs.YthljanmfanppdaaDoor.KLk
open Go.RowKit Go.Proofs.YthljanmfanppdaaDoorW.PrintWords Go.Proofs.YthljanmfanppdaaDoorW.PrintLast Go.Proofs.YthljanmfanppdaaDoorW.PrintMore
attribute [local go_sem] max2_int min2_int max_two min_two max_three min_three max_four min_four   -- for this text's walks alone
set_option linter.unusedVariables false
set_option linter.unusedSimpArgs false
def backoff_Due.f (k : Nat) (a0_0 : Int) (a0_1 : Int) (a0_2 : Int) (a0_3 : Int) (a0_4 : Int) (a0_5 : Int) (a0_6 : Int) (a0_7 : Int) (a0_8 : Int) (a0_9 : Int) (a0_10 : Int) (a0_11 : Int) (a0_12 : Int) (a1 : Int) (a2 : Int) (a3 : Int) : Option (Int) := (backoff_Wait.f k a0_9 a0_10 a2).bind fun t132 => ((backoff_Jitter.f k a3 a0_11).bind fun t133 => ((round_Plus.f k (([a1, t132, t133] : List Int))).bind fun t137 => (some t137)))
def backoff_Due.T1 : Bool × List (List Nat × List Nat) := (true, [([], []), ([], []), ([1], [1]), ([], []), ([3], [3]), ([], []), ([2, 4, 5], [2, 4, 5]), ([], []), ([], []), ([8], [8]), ([7, 9, 6], [7, 9]), ([0, 6, 10], [0, 6, 10]), ([11, 10], [11]), ([12, 12, 0, 1, 2, 3, 4, 5, 6, 7, 8, 9, 10, 11, 12], [12])])
def backoff_Due.B1 : List Nat := [0, 0, 2, 0, 8, 0, 62, 0, 0, 256, 1022, 2047, 4095, 8191]
theorem backoff_Due.tab1 : rtab .any (opsOf Tryd.f25 1) = backoff_Due.T1 := by kernel_rfl
theorem backoff_Due.bits1 : waitsOk backoff_Due.T1.2 backoff_Due.B1 = true := by kernel_rfl
set_option maxHeartbeats 8000000 in
set_option maxRecDepth 100000 in
theorem backoff_Due.calls (k : Nat) (a0_0 : Int) (a0_1 : Int) (a0_2 : Int) (a0_3 : Int) (a0_4 : Int) (a0_5 : Int) (a0_6 : Int) (a0_7 : Int) (a0_8 : Int) (a0_9 : Int) (a0_10 : Int) (a0_11 : Int) (a0_12 : Int) (a1 : Int) (a2 : Int) (a3 : Int) (r : Int) (w : World) (h : backoff_Due.f k a0_0 a0_1 a0_2 a0_3 a0_4 a0_5 a0_6 a0_7 a0_8 a0_9 a0_10 a0_11 a0_12 a1 a2 a3 = some r) :
  Calls Tryd.prog 25 #[.agg #[.int .i64 a0_0, .int .i64 a0_1, .int .i64 a0_2, .int .i64 a0_3, .int .i64 a0_4, .int .i64 a0_5, .int .i64 a0_6, .int .i64 a0_7, .int .i64 a0_8, .int .i64 a0_9, .int .i64 a0_10, .int .i64 a0_11, .int .i64 a0_12], .int .i64 a1, .int .i64 a2, .int .i64 a3] w fun e w' => e = .returned (.int .i64 r) ∧ Below w.heap.size w w' := by
 have hu36 := Tryd.underlying36
 have HB := Aside0.mk (Below.refl w.heap.size w)
 have H : ((backoff_Wait.f k a0_9 a0_10 a2).bind fun t132 => ((backoff_Jitter.f k a3 a0_11).bind fun t133 => ((round_Plus.f k (([a1, t132, t133] : List Int))).bind fun t137 => (some t137)))) = some r := h
 clear h
 replace H := Option.bind_eq_some_iff.mp H
 obtain ⟨t132, A50, H⟩ := H
 replace H : ((backoff_Jitter.f k a3 a0_11).bind fun t133 => ((round_Plus.f k (([a1, t132, t133] : List Int))).bind fun t137 => (some t137))) = some r := H
 have A5 := Aside0.mk A50
 clear A50
 replace H := Option.bind_eq_some_iff.mp H
 obtain ⟨t133, A60, H⟩ := H
 replace H : ((round_Plus.f k (([a1, t132, t133] : List Int))).bind fun t137 => (some t137)) = some r := H
 have A6 := Aside0.mk A60
 clear A60
 obtain ⟨y134, hy134⟩ : ∃ y_ : List Int, y_ = (([a1, t132, t133] : List Int)) := ⟨_, rfl⟩
 replace H : ((round_Plus.f k y134).bind fun t137 => (some t137)) = some r := by first | (rw [hy134]; with_reducible exact H) | (have H2_ := (Option.bind_some _ _).symm.trans H; rw [hy134]; with_reducible exact H2_) | (have H2_ := (Option.bind_some _ _).symm.trans H; with_reducible exact H2_) | with_reducible exact H | (rw [hy134]; exact H) | exact H
 have Ny134 := Aside0.mk hy134
 clear hy134
 replace H := Option.bind_eq_some_iff.mp H
 obtain ⟨t137, A70, H⟩ := H
 replace H : (some t137) = some r := H
 have A7 := Aside0.mk A70
 clear A70
 obtain rfl := Option.some.inj H
 go_enter Tryd.func25, Tryd.ntmps25
 try go_wp2_with (first | ((with_reducible refine gate_dst (N := 4) rfl ?_); refine box_event ?hg (N := 4) ?hd (cs := #[.int .i64 a0_0, .int .i64 a0_1, .int .i64 a0_2, .int .i64 a0_3, .int .i64 a0_4, .int .i64 a0_5, .int .i64 a0_6, .int .i64 a0_7, .int .i64 a0_8, .int .i64 a0_9, .int .i64 a0_10, .int .i64 a0_11, .int .i64 a0_12]) (t := 36) ?hr ?_; (case hd => rfl); (case hg => rfl); (case hr => first | (go_simp; done) | (go_simp; rfl)); intro gb131 hg w8 hbox hb; have n0_ := Aside0.mk (below_step (by repeat (first | (with_reducible first | exact HB.out | apply below_alloc | apply pw_below_drewN | apply below_drew1) | exact HB.out)) hb); have n1_ := Aside0.mk (hbox); have n2_ := Aside0.mk ((by rw [hg]; exact (below_size (by repeat (first | (with_reducible first | exact HB.out | apply below_alloc | apply pw_below_drewN | apply below_drew1) | exact HB.out))) : w.heap.size ≤ gb131)); have n3_ := Aside0.mk ((by rw [hg]; exact (below_size (by repeat (first | (with_reducible first | exact HB.out | apply below_alloc | apply pw_below_drewN | apply below_drew1) | exact HB.out))) : w.heap.size ≤ gb131)); clear HB; have HB := n0_; have BK131 := n1_; have GW131 := n2_; have GE131 := n3_; clear n0_ n1_ n2_ n3_; clear hb hbox hg))
 have n0_ := Aside0.mk (blk_drew BK131.out)
 have n1_ := Aside0.mk (below_drew1 HB.out)
 clear BK131
 clear HB
 have BK131 := n0_
 have HB := n1_
 clear n0_ n1_
 refine start_ (n := 14) (S := fun w' => w'.cell? ⟨gb131, 0, none⟩ = some (.int .i64 a0_0) ∧ w'.cell? ⟨gb131, 1, none⟩ = some (.int .i64 a0_1) ∧ w'.cell? ⟨gb131, 2, none⟩ = some (.int .i64 a0_2) ∧ w'.cell? ⟨gb131, 3, none⟩ = some (.int .i64 a0_3) ∧ w'.cell? ⟨gb131, 4, none⟩ = some (.int .i64 a0_4) ∧ w'.cell? ⟨gb131, 5, none⟩ = some (.int .i64 a0_5) ∧ w'.cell? ⟨gb131, 6, none⟩ = some (.int .i64 a0_6) ∧ w'.cell? ⟨gb131, 7, none⟩ = some (.int .i64 a0_7) ∧ w'.cell? ⟨gb131, 8, none⟩ = some (.int .i64 a0_8) ∧ w'.cell? ⟨gb131, 9, none⟩ = some (.int .i64 a0_9) ∧ w'.cell? ⟨gb131, 10, none⟩ = some (.int .i64 a0_10) ∧ w'.cell? ⟨gb131, 11, none⟩ = some (.int .i64 a0_11) ∧ w'.cell? ⟨gb131, 12, none⟩ = some (.int .i64 a0_12)) (ds := []) #[ff,ff,ff,ff,ff,ff,ff,ff,ff,ff,ff,ff,ff,ff] (by kernel_rfl) rfl rfl ⟨(blk_cell BK131.out 0).trans rfl, (blk_cell BK131.out 1).trans rfl, (blk_cell BK131.out 2).trans rfl, (blk_cell BK131.out 3).trans rfl, (blk_cell BK131.out 4).trans rfl, (blk_cell BK131.out 5).trans rfl, (blk_cell BK131.out 6).trans rfl, (blk_cell BK131.out 7).trans rfl, (blk_cell BK131.out 8).trans rfl, (blk_cell BK131.out 9).trans rfl, (blk_cell BK131.out 10).trans rfl, (blk_cell BK131.out 11).trans rfl, (blk_cell BK131.out 12).trans rfl⟩ (fun hHeld => ?_); refine with_tabW backoff_Due.tab1 backoff_Due.bits1 (fun HT_ HW_ => ?_)
 generalize w8.drew = w9 at BK131 HB hHeld ⊢
 refine pure_ (i := 0) (N := some 9) (v := ?_) (a' := ?_) #[tt,ff,ff,ff,ff,ff,ff,ff,ff,ff,ff,ff,ff,ff] rfl rfl (any_of HT_.out (by kernel_rfl)) (fun _ _ _ h => h) (Or.inl ⟨by rfl, ?_⟩) ?_ ?_
 rotate_left
 ·intro w'
  go_simp
  with_reducible rfl
 rotate_left
 ·simp only [Act.put, sQ0, sQ1, sQ2, i64_w]
  rfl
 refine pure_ (i := 1) (N := some 10) (v := ?_) (a' := ?_) #[tt,tt,ff,ff,ff,ff,ff,ff,ff,ff,ff,ff,ff,ff] rfl rfl (any_of HT_.out (by kernel_rfl)) (fun _ _ _ h => h) (Or.inl ⟨by rfl, ?_⟩) ?_ ?_
 rotate_left
 ·intro w'
  go_simp
  with_reducible rfl
 rotate_left
 ·simp only [Act.put, sQ0, sQ1, sQ2, i64_w]
  rfl
 refine pure_ (i := 3) (N := some 12) (v := ?_) (a' := ?_) #[tt,tt,ff,tt,ff,ff,ff,ff,ff,ff,ff,ff,ff,ff] rfl rfl (any_of HT_.out (by kernel_rfl)) (fun _ _ _ h => h) (Or.inl ⟨by rfl, ?_⟩) ?_ ?_
 rotate_left
 ·intro w'
  go_simp
  with_reducible rfl
 rotate_left
 ·simp only [Act.put, sQ0, sQ1, sQ2, i64_w]
  rfl
 refine pure_ (i := 5) (N := some 14) (v := ?_) (a' := ?_) #[tt,tt,ff,tt,ff,tt,ff,ff,ff,ff,ff,ff,ff,ff] rfl rfl (any_of HT_.out (by kernel_rfl)) (fun _ _ _ h => h) (Or.inl ⟨by rfl, ?_⟩) ?_ ?_
 rotate_left
 ·intro w'
  go_simp
  with_reducible rfl
 rotate_left
 ·simp only [Act.put, sQ0, sQ1, sQ2, i64_w]
  rfl
 refine pure_ (i := 7) (N := some 16) (v := ?_) (a' := ?_) #[tt,tt,ff,tt,ff,tt,ff,tt,ff,ff,ff,ff,ff,ff] rfl rfl (any_of HT_.out (by kernel_rfl)) (fun _ _ _ h => h) (Or.inl ⟨by rfl, ?_⟩) ?_ ?_
 rotate_left
 ·intro w'
  go_simp
  with_reducible rfl
 rotate_left
 ·simp only [Act.put, sQ0, sQ1, sQ2, i64_w]
  rfl
 refine pure_ (i := 8) (N := some 17) (v := ?_) (a' := ?_) #[tt,tt,ff,tt,ff,tt,ff,tt,tt,ff,ff,ff,ff,ff] rfl rfl (any_of HT_.out (by kernel_rfl)) (fun _ _ _ h => h) (Or.inl ⟨by rfl, ?_⟩) ?_ ?_
 rotate_left
 ·intro w'
  go_simp
  with_reducible rfl
 rotate_left
 ·simp only [Act.put, sQ0, sQ1, sQ2, i64_w]
  rfl
 refine take_ (i := 2) (N := some 11) (v := ?_) (a' := ?_) #[tt,tt,tt,tt,ff,tt,ff,tt,tt,ff,ff,ff,ff,ff] rfl rfl (take_ofW HT_.out HW_.out (by kernel_rfl)) (fun _ _ _ h => h) (Or.inl ⟨by rfl, ?_⟩) hHeld ?_ ?_
 rotate_left
 ·rintro w' ⟨s0, s1, s2, s3, s4, s5, s6, s7, s8, s9, s10, s11, s12⟩
  go_simp
  with_reducible rfl
 rotate_left
 ·simp only [Act.put, sQ0, sQ1, sQ2, i64_w]
  rfl
 refine take_ (i := 4) (N := some 13) (v := ?_) (a' := ?_) #[tt,tt,tt,tt,tt,tt,ff,tt,tt,ff,ff,ff,ff,ff] rfl rfl (take_ofW HT_.out HW_.out (by kernel_rfl)) (fun _ _ _ h => h) (Or.inl ⟨by rfl, ?_⟩) hHeld ?_ ?_
 rotate_left
 ·rintro w' ⟨s0, s1, s2, s3, s4, s5, s6, s7, s8, s9, s10, s11, s12⟩
  go_simp
  with_reducible rfl
 rotate_left
 ·simp only [Act.put, sQ0, sQ1, sQ2, i64_w]
  rfl
 refine take_ (i := 9) (N := some 18) (v := ?_) (a' := ?_) #[tt,tt,tt,tt,tt,tt,ff,tt,tt,tt,ff,ff,ff,ff] rfl rfl (take_ofW HT_.out HW_.out (by kernel_rfl)) (fun _ _ _ h => h) (Or.inl ⟨by rfl, ?_⟩) hHeld ?_ ?_
 rotate_left
 ·rintro w' ⟨s0, s1, s2, s3, s4, s5, s6, s7, s8, s9, s10, s11, s12⟩
  go_simp
  with_reducible rfl
 rotate_left
 ·simp only [Act.put, sQ0, sQ1, sQ2, i64_w]
  rfl
 refine one_ (i := 6) (N := some 15) #[tt,tt,tt,tt,tt,tt,tt,tt,tt,tt,ff,ff,ff,ff] rfl rfl (one_of HT_.out (by kernel_rfl)) (by decide) (fun K hK => ?_)
 refine goes_ Tryd.func28 (by kernel_rfl) rfl #[.int .i64 a0_9, .int .i64 a0_10, .int .i64 a2] (by rfl) rfl rfl (by (try simp only [List.map_toArray, List.map_cons, List.map_nil]); first | done | rfl | (simp only [List.length_drop, List.length_take]; rfl)) ?_
 with_reducible refine (backoff_Wait.calls k a0_9 a0_10 a2 t132 _ A5.out).mono ?_
 rintro e w10 ⟨rfl, hb⟩
 refine ⟨_, rfl, ?_⟩
 have n0_ := Aside0.mk (blk_below (g := gb131) (o := .cells #[.int .i64 a0_0, .int .i64 a0_1, .int .i64 a0_2, .int .i64 a0_3, .int .i64 a0_4, .int .i64 a0_5, .int .i64 a0_6, .int .i64 a0_7, .int .i64 a0_8, .int .i64 a0_9, .int .i64 a0_10, .int .i64 a0_11, .int .i64 a0_12] 36 (0, 0)) (by (with_reducible repeat (first | refine blk_drewN ?_ _ | refine blk_drew ?_ | refine blk_alloc ?_ _)); exact BK131.out) hb)
 have n1_ := Aside0.mk (below_step (by repeat (first | (with_reducible first | exact HB.out | apply below_alloc | apply pw_below_drewN | apply below_drew1 | refine below_set ?_ GE131.out) | exact HB.out)) hb)
 clear BK131
 clear HB
 have BK131 := n0_
 have HB := n1_
 clear n0_ n1_
 (try clear hb)
 (try clear hb2)
 (try clear hk)
 (try clear hi)
 refine hK.out _ _ ⟨(blk_cell BK131.out 0).trans rfl, (blk_cell BK131.out 1).trans rfl, (blk_cell BK131.out 2).trans rfl, (blk_cell BK131.out 3).trans rfl, (blk_cell BK131.out 4).trans rfl, (blk_cell BK131.out 5).trans rfl, (blk_cell BK131.out 6).trans rfl, (blk_cell BK131.out 7).trans rfl, (blk_cell BK131.out 8).trans rfl, (blk_cell BK131.out 9).trans rfl, (blk_cell BK131.out 10).trans rfl, (blk_cell BK131.out 11).trans rfl, (blk_cell BK131.out 12).trans rfl⟩ (fun hHeld => ?_)
 clear hK K
 refine norm_ (a' := ?_) ?_ ?_
 rotate_left
 ·show Act.put _ (some 15) _ = _
  simp only [Act.put, sQ0, sQ1, sQ2, i64_w]
  rfl
 refine one_ (i := 10) (N := some 19) #[tt,tt,tt,tt,tt,tt,tt,tt,tt,tt,tt,ff,ff,ff] rfl rfl (one_of HT_.out (by kernel_rfl)) (by decide) (fun K hK => ?_)
 refine goes_ Tryd.func29 (by kernel_rfl) rfl #[.int .i64 a3, .int .i64 a0_11] (by rfl) rfl rfl (by (try simp only [List.map_toArray, List.map_cons, List.map_nil]); first | done | rfl | (simp only [List.length_drop, List.length_take]; rfl)) ?_
 with_reducible refine (backoff_Jitter.calls k a3 a0_11 t133 _ A6.out).mono ?_
 rintro e w11 ⟨rfl, hb⟩
 refine ⟨_, rfl, ?_⟩
 have n0_ := Aside0.mk (blk_below (g := gb131) (o := .cells #[.int .i64 a0_0, .int .i64 a0_1, .int .i64 a0_2, .int .i64 a0_3, .int .i64 a0_4, .int .i64 a0_5, .int .i64 a0_6, .int .i64 a0_7, .int .i64 a0_8, .int .i64 a0_9, .int .i64 a0_10, .int .i64 a0_11, .int .i64 a0_12] 36 (0, 0)) (by (with_reducible repeat (first | refine blk_drewN ?_ _ | refine blk_drew ?_ | refine blk_alloc ?_ _)); exact BK131.out) hb)
 have n1_ := Aside0.mk (below_step (by repeat (first | (with_reducible first | exact HB.out | apply below_alloc | apply pw_below_drewN | apply below_drew1 | refine below_set ?_ GE131.out) | exact HB.out)) hb)
 clear BK131
 clear HB
 have BK131 := n0_
 have HB := n1_
 clear n0_ n1_
 (try clear hb)
 (try clear hb2)
 (try clear hk)
 (try clear hi)
 refine hK.out _ _ ⟨(blk_cell BK131.out 0).trans rfl, (blk_cell BK131.out 1).trans rfl, (blk_cell BK131.out 2).trans rfl, (blk_cell BK131.out 3).trans rfl, (blk_cell BK131.out 4).trans rfl, (blk_cell BK131.out 5).trans rfl, (blk_cell BK131.out 6).trans rfl, (blk_cell BK131.out 7).trans rfl, (blk_cell BK131.out 8).trans rfl, (blk_cell BK131.out 9).trans rfl, (blk_cell BK131.out 10).trans rfl, (blk_cell BK131.out 11).trans rfl, (blk_cell BK131.out 12).trans rfl⟩ (fun hHeld => ?_)
 clear hK K
 refine norm_ (a' := ?_) ?_ ?_
 rotate_left
 ·show Act.put _ (some 19) _ = _
  simp only [Act.put, sQ0, sQ1, sQ2, i64_w]
  rfl
 refine one_ (i := 11) (N := some 20) #[tt,tt,tt,tt,tt,tt,tt,tt,tt,tt,tt,tt,ff,ff] rfl rfl (one_of HT_.out (by kernel_rfl)) (by decide) (fun K hK => ?_)
 refine Kd.R_lit_step (Kd.int .i64) _ 3 ?hg (N := 20) ?hd (xs := ([a1, t132, t133] : List Int)) (inner := [.int .i64 a1, .int .i64 t132, .int .i64 t133]) (ok := fun _ => True) (okp := fun _ => True) ?hr ?hp (fun _ hk => hk) trivial (Below.refl _ _) (Nat.le_refl _) (by simp) ?_; (case hd => rfl); (case hg => rfl); (case hr => first | (go_simp; done) | (go_simp; rfl)); (case hp => exact (Reps.one (show Kd.M (Kd.int .i64) _ _ _ a1 [.int .i64 a1] from rfl) (Reps.one (show Kd.M (Kd.int .i64) _ _ _ t132 [.int .i64 t132] from rfl) (Reps.one (show Kd.M (Kd.int .i64) _ _ _ t133 [.int .i64 t133] from rfl) (Reps.none _ _)))))
 intro v135 w12 ho13 hb hg_ hnew_
 clear hg_ hnew_
 (first | rw [← Ny134.out] at ho13 | (simp only [Int.reduceToNat] at ho13; rw [← Ny134.out] at ho13))
 have n0_ := Aside0.mk (Kd.R_lower ho13 (below_size (by repeat (first | (with_reducible first | exact HB.out | apply below_alloc | apply pw_below_drewN | apply below_drew1 | refine below_set ?_ GE131.out) | exact HB.out))))
 have n1_ := Aside0.mk (blk_below (g := gb131) (o := .cells #[.int .i64 a0_0, .int .i64 a0_1, .int .i64 a0_2, .int .i64 a0_3, .int .i64 a0_4, .int .i64 a0_5, .int .i64 a0_6, .int .i64 a0_7, .int .i64 a0_8, .int .i64 a0_9, .int .i64 a0_10, .int .i64 a0_11, .int .i64 a0_12] 36 (0, 0)) (by (with_reducible repeat (first | refine blk_drewN ?_ _ | refine blk_drew ?_ | refine blk_alloc ?_ _)); exact BK131.out) hb)
 have n2_ := Aside0.mk (below_step (by repeat (first | (with_reducible first | exact HB.out | apply below_alloc | apply pw_below_drewN | apply below_drew1 | refine below_set ?_ GE131.out) | exact HB.out)) hb)
 clear BK131
 clear HB
 have HO136 := n0_
 have BK131 := n1_
 have HB := n2_
 clear n0_ n1_ n2_
 clear hb ho13
 obtain ⟨Ao14, co14, eo14⟩ := Kd.R_slice HO136.out
 (first | subst eo14 | (injection eo14 with f1_ f2_ f3_; have f4_ := f1_.symm; have f5_ := f3_.symm; clear f1_ f2_ f3_; subst f4_; subst f5_))
 refine hK.out _ _ ⟨(blk_cell BK131.out 0).trans rfl, (blk_cell BK131.out 1).trans rfl, (blk_cell BK131.out 2).trans rfl, (blk_cell BK131.out 3).trans rfl, (blk_cell BK131.out 4).trans rfl, (blk_cell BK131.out 5).trans rfl, (blk_cell BK131.out 6).trans rfl, (blk_cell BK131.out 7).trans rfl, (blk_cell BK131.out 8).trans rfl, (blk_cell BK131.out 9).trans rfl, (blk_cell BK131.out 10).trans rfl, (blk_cell BK131.out 11).trans rfl, (blk_cell BK131.out 12).trans rfl⟩ (fun hHeld => ?_)
 clear hK K
 refine norm_ (a' := ?_) ?_ ?_
 rotate_left
 ·show Act.put _ (some 20) _ = _
  simp only [Act.put, sQ0, sQ1, sQ2, i64_w]
  rfl
 refine one_ (i := 12) (N := some 21) #[tt,tt,tt,tt,tt,tt,tt,tt,tt,tt,tt,tt,tt,ff] rfl rfl (one_of HT_.out (by kernel_rfl)) (by decide) (fun K hK => ?_)
 refine goes_ Tryd.func27 (by kernel_rfl) rfl #[.slice Ao14 y134.length co14] (by rfl) rfl rfl (by (try simp only [List.map_toArray, List.map_cons, List.map_nil]); first | done | rfl | (simp only [List.length_drop, List.length_take]; rfl)) ?_
 with_reducible refine (round_Plus.calls k _ _ y134 t137 _ ?side1 ?side2 A7.out).mono ?_
 (case side1 => repeat (first | exact (Kd.R_reads' HO136.out).2.2 | (with_reducible refine Kd.C_alloc ?_ _) | (with_reducible refine Kd.C_drewN ?_ _) | (with_reducible refine Kd.C_drew ?_)))
 (case side2 => exact (Kd.R_reads' HO136.out).2.1)
 rintro e w15 ⟨rfl, hb⟩
 refine ⟨_, rfl, ?_⟩
 have n0_ := Aside0.mk (Kd.R_below (by (with_reducible repeat (first | apply Kd.R_alloc | apply Kd.R_drewN | apply Kd.R_drew)); exact HO136.out) hb)
 have n1_ := Aside0.mk (blk_below (g := gb131) (o := .cells #[.int .i64 a0_0, .int .i64 a0_1, .int .i64 a0_2, .int .i64 a0_3, .int .i64 a0_4, .int .i64 a0_5, .int .i64 a0_6, .int .i64 a0_7, .int .i64 a0_8, .int .i64 a0_9, .int .i64 a0_10, .int .i64 a0_11, .int .i64 a0_12] 36 (0, 0)) (by (with_reducible repeat (first | refine blk_drewN ?_ _ | refine blk_drew ?_ | refine blk_alloc ?_ _)); exact BK131.out) hb)
 have n2_ := Aside0.mk (below_step (by repeat (first | (with_reducible first | exact HB.out | apply below_alloc | apply pw_below_drewN | apply below_drew1 | refine below_set ?_ GE131.out) | exact HB.out)) hb)
 clear HO136
 clear BK131
 clear HB
 have HO136 := n0_
 have BK131 := n1_
 have HB := n2_
 clear n0_ n1_ n2_
 (try clear hb)
 (try clear hb2)
 (try clear hk)
 (try clear hi)
 refine hK.out _ _ ⟨(blk_cell BK131.out 0).trans rfl, (blk_cell BK131.out 1).trans rfl, (blk_cell BK131.out 2).trans rfl, (blk_cell BK131.out 3).trans rfl, (blk_cell BK131.out 4).trans rfl, (blk_cell BK131.out 5).trans rfl, (blk_cell BK131.out 6).trans rfl, (blk_cell BK131.out 7).trans rfl, (blk_cell BK131.out 8).trans rfl, (blk_cell BK131.out 9).trans rfl, (blk_cell BK131.out 10).trans rfl, (blk_cell BK131.out 11).trans rfl, (blk_cell BK131.out 12).trans rfl⟩ (fun hHeld => ?_)
 clear hK K
 refine norm_ (a' := ?_) ?_ ?_
 rotate_left
 ·show Act.put _ (some 21) _ = _
  simp only [Act.put, sQ0, sQ1, sQ2, i64_w]
  rfl
 refine pure_ (i := 13) (N := some 8) (v := ?_) (a' := ?_) #[tt,tt,tt,tt,tt,tt,tt,tt,tt,tt,tt,tt,tt,tt] rfl rfl (any_of HT_.out (by kernel_rfl)) (fun _ _ _ h => h) (Or.inl ⟨by rfl, ?_⟩) ?_ ?_
 rotate_left
 ·intro w'
  go_simp
  with_reducible rfl
 rotate_left
 ·simp only [Act.put, sQ0, sQ1, sQ2, i64_w]
  rfl
 refine done_ (done_of HT_.out (by kernel_rfl)) ?_
 try go_wp2
 go_ret
 exact ⟨by first | rfl | (simp [errW_none, errW_some] <;> rfl) | (simp [*, errW_none, errW_some] <;> rfl), by repeat (first | (with_reducible first | exact HB.out | apply below_alloc | apply pw_below_drewN | apply below_drew1 | refine below_set ?_ GE131.out) | exact HB.out)⟩
def backoff_Idle.f (k : Nat) (a0_0 : Int) (a0_1 : Int) (a0_2 : Int) (a0_3 : Int) (a0_4 : Int) (a0_5 : Int) (a0_6 : Int) (a0_7 : Int) (a0_8 : Int) (a0_9 : Int) (a0_10 : Int) (a0_11 : Int) (a0_12 : Int) (a1 : Int) : Option (Int) := (round_Plus.f k (([a1, a0_8] : List Int))).bind fun t142 => (some t142)
set_option maxHeartbeats 8000000 in
set_option maxRecDepth 100000 in
theorem backoff_Idle.calls (k : Nat) (a0_0 : Int) (a0_1 : Int) (a0_2 : Int) (a0_3 : Int) (a0_4 : Int) (a0_5 : Int) (a0_6 : Int) (a0_7 : Int) (a0_8 : Int) (a0_9 : Int) (a0_10 : Int) (a0_11 : Int) (a0_12 : Int) (a1 : Int) (r : Int) (w : World) (h : backoff_Idle.f k a0_0 a0_1 a0_2 a0_3 a0_4 a0_5 a0_6 a0_7 a0_8 a0_9 a0_10 a0_11 a0_12 a1 = some r) :
  Calls Tryd.prog 24 #[.agg #[.int .i64 a0_0, .int .i64 a0_1, .int .i64 a0_2, .int .i64 a0_3, .int .i64 a0_4, .int .i64 a0_5, .int .i64 a0_6, .int .i64 a0_7, .int .i64 a0_8, .int .i64 a0_9, .int .i64 a0_10, .int .i64 a0_11, .int .i64 a0_12], .int .i64 a1] w fun e w' => e = .returned (.int .i64 r) ∧ Below w.heap.size w w' := by
 have hu36 := Tryd.underlying36
 have HB := Aside0.mk (Below.refl w.heap.size w)
 have H : ((round_Plus.f k (([a1, a0_8] : List Int))).bind fun t142 => (some t142)) = some r := h
 clear h
 obtain ⟨y139, hy139⟩ : ∃ y_ : List Int, y_ = (([a1, a0_8] : List Int)) := ⟨_, rfl⟩
 replace H : ((round_Plus.f k y139).bind fun t142 => (some t142)) = some r := by first | (rw [hy139]; with_reducible exact H) | (have H2_ := (Option.bind_some _ _).symm.trans H; rw [hy139]; with_reducible exact H2_) | (have H2_ := (Option.bind_some _ _).symm.trans H; with_reducible exact H2_) | with_reducible exact H | (rw [hy139]; exact H) | exact H
 have Ny139 := Aside0.mk hy139
 clear hy139
 replace H := Option.bind_eq_some_iff.mp H
 obtain ⟨t142, A30, H⟩ := H
 replace H : (some t142) = some r := H
 have A3 := Aside0.mk A30
 clear A30
 obtain rfl := Option.some.inj H
 go_enter Tryd.func24, Tryd.ntmps24
 go_wp2_with (first | ((with_reducible refine gate_dst (N := 2) rfl ?_); refine box_event ?hg (N := 2) ?hd (cs := #[.int .i64 a0_0, .int .i64 a0_1, .int .i64 a0_2, .int .i64 a0_3, .int .i64 a0_4, .int .i64 a0_5, .int .i64 a0_6, .int .i64 a0_7, .int .i64 a0_8, .int .i64 a0_9, .int .i64 a0_10, .int .i64 a0_11, .int .i64 a0_12]) (t := 36) ?hr ?_; (case hd => rfl); (case hg => rfl); (case hr => first | (go_simp; done) | (go_simp; rfl)); intro gb138 hg w4 hbox hb; have n0_ := Aside0.mk (below_step (by repeat (first | (with_reducible first | exact HB.out | apply below_alloc | apply pw_below_drewN | apply below_drew1) | exact HB.out)) hb); have n1_ := Aside0.mk (hbox); have n2_ := Aside0.mk ((by rw [hg]; exact (below_size (by repeat (first | (with_reducible first | exact HB.out | apply below_alloc | apply pw_below_drewN | apply below_drew1) | exact HB.out))) : w.heap.size ≤ gb138)); have n3_ := Aside0.mk ((by rw [hg]; exact (below_size (by repeat (first | (with_reducible first | exact HB.out | apply below_alloc | apply pw_below_drewN | apply below_drew1) | exact HB.out))) : w.heap.size ≤ gb138)); clear HB; have HB := n0_; have BK138 := n1_; have GW138 := n2_; have GE138 := n3_; clear n0_ n1_ n2_ n3_; clear hb hbox hg; have hcz5_0 : w4.cell? ⟨gb138, 0, none⟩ = some (.int .i64 a0_0) := (blk_cell BK138.out 0).trans rfl; have hcz5_1 : w4.cell? ⟨gb138, 1, none⟩ = some (.int .i64 a0_1) := (blk_cell BK138.out 1).trans rfl; have hcz5_2 : w4.cell? ⟨gb138, 2, none⟩ = some (.int .i64 a0_2) := (blk_cell BK138.out 2).trans rfl; have hcz5_3 : w4.cell? ⟨gb138, 3, none⟩ = some (.int .i64 a0_3) := (blk_cell BK138.out 3).trans rfl; have hcz5_4 : w4.cell? ⟨gb138, 4, none⟩ = some (.int .i64 a0_4) := (blk_cell BK138.out 4).trans rfl; have hcz5_5 : w4.cell? ⟨gb138, 5, none⟩ = some (.int .i64 a0_5) := (blk_cell BK138.out 5).trans rfl; have hcz5_6 : w4.cell? ⟨gb138, 6, none⟩ = some (.int .i64 a0_6) := (blk_cell BK138.out 6).trans rfl; have hcz5_7 : w4.cell? ⟨gb138, 7, none⟩ = some (.int .i64 a0_7) := (blk_cell BK138.out 7).trans rfl; have hcz5_8 : w4.cell? ⟨gb138, 8, none⟩ = some (.int .i64 a0_8) := (blk_cell BK138.out 8).trans rfl; have hcz5_9 : w4.cell? ⟨gb138, 9, none⟩ = some (.int .i64 a0_9) := (blk_cell BK138.out 9).trans rfl; have hcz5_10 : w4.cell? ⟨gb138, 10, none⟩ = some (.int .i64 a0_10) := (blk_cell BK138.out 10).trans rfl; have hcz5_11 : w4.cell? ⟨gb138, 11, none⟩ = some (.int .i64 a0_11) := (blk_cell BK138.out 11).trans rfl; have hcz5_12 : w4.cell? ⟨gb138, 12, none⟩ = some (.int .i64 a0_12) := (blk_cell BK138.out 12).trans rfl; have hfz5_0 := blk_frozen BK138.out 0; have hfz5_1 := blk_frozen BK138.out 1; have hfz5_2 := blk_frozen BK138.out 2; have hfz5_3 := blk_frozen BK138.out 3; have hfz5_4 := blk_frozen BK138.out 4; have hfz5_5 := blk_frozen BK138.out 5; have hfz5_6 := blk_frozen BK138.out 6; have hfz5_7 := blk_frozen BK138.out 7; have hfz5_8 := blk_frozen BK138.out 8; have hfz5_9 := blk_frozen BK138.out 9; have hfz5_10 := blk_frozen BK138.out 10; have hfz5_11 := blk_frozen BK138.out 11; have hfz5_12 := blk_frozen BK138.out 12) | ((with_reducible refine gate_dst (N := 8) rfl ?_); refine Kd.R_lit (Kd.int .i64) _ 3 ?hg (N := 8) ?hd (xs := ([a1, a0_8] : List Int)) (inner := [.int .i64 a1, .int .i64 a0_8]) (ok := fun _ => True) (okp := fun _ => True) ?hr ?hp (fun _ hk => hk) trivial (Below.refl _ _) (Nat.le_refl _) (by simp) ?_; (case hd => rfl); (case hg => rfl); (case hr => first | (go_simp; done) | (go_simp; rfl)); (case hp => exact (Reps.one (show Kd.M (Kd.int .i64) _ _ _ a1 [.int .i64 a1] from rfl) (Reps.one (show Kd.M (Kd.int .i64) _ _ _ a0_8 [.int .i64 a0_8] from rfl) (Reps.none _ _)))); intro v140 w6 ho7 hb hg_ hnew_; clear hg_ hnew_; (first | rw [← Ny139.out] at ho7 | (simp only [Int.reduceToNat] at ho7; rw [← Ny139.out] at ho7)); have n0_ := Aside0.mk (Kd.R_lower ho7 (below_size (by repeat (first | (with_reducible first | exact HB.out | apply below_alloc | apply pw_below_drewN | apply below_drew1 | refine below_set ?_ GE138.out) | exact HB.out)))); have n1_ := Aside0.mk (blk_below (g := gb138) (o := .cells #[.int .i64 a0_0, .int .i64 a0_1, .int .i64 a0_2, .int .i64 a0_3, .int .i64 a0_4, .int .i64 a0_5, .int .i64 a0_6, .int .i64 a0_7, .int .i64 a0_8, .int .i64 a0_9, .int .i64 a0_10, .int .i64 a0_11, .int .i64 a0_12] 36 (0, 0)) (by (with_reducible repeat (first | refine blk_drewN ?_ _ | refine blk_drew ?_ | refine blk_alloc ?_ _)); exact BK138.out) hb); have n2_ := Aside0.mk (below_step (by repeat (first | (with_reducible first | exact HB.out | apply below_alloc | apply pw_below_drewN | apply below_drew1 | refine below_set ?_ GE138.out) | exact HB.out)) hb); clear BK138; clear HB; have HO141 := n0_; have BK138 := n1_; have HB := n2_; clear n0_ n1_ n2_; clear hb ho7; obtain ⟨Ao8, co8, eo8⟩ := Kd.R_slice HO141.out; subst eo8) | ((with_reducible refine gate_callee (f := 27) rfl ?_); refine goesL_ (some 9) rfl rfl Tryd.func27 (by kernel_rfl) rfl #[.slice Ao8 y139.length co8] rfl (by (try simp only [List.map_toArray, List.map_cons, List.map_nil]); first | done | rfl | (simp only [List.length_drop, List.length_take]; rfl)) ?_; (with_reducible refine (round_Plus.calls k _ _ y139 t142 _ ?side1 ?side2 A3.out).mono ?_); (case side1 => repeat (first | exact (Kd.R_reads' HO141.out).2.2 | (with_reducible refine Kd.C_alloc ?_ _) | (with_reducible refine Kd.C_drewN ?_ _) | (with_reducible refine Kd.C_drew ?_))); (case side2 => exact (Kd.R_reads' HO141.out).2.1); rintro e w9 ⟨rfl, hb⟩; refine ⟨_, rfl, ?_⟩; have n0_ := Aside0.mk (Kd.R_below (by (with_reducible repeat (first | apply Kd.R_alloc | apply Kd.R_drewN | apply Kd.R_drew)); exact HO141.out) hb); have n1_ := Aside0.mk (blk_below (g := gb138) (o := .cells #[.int .i64 a0_0, .int .i64 a0_1, .int .i64 a0_2, .int .i64 a0_3, .int .i64 a0_4, .int .i64 a0_5, .int .i64 a0_6, .int .i64 a0_7, .int .i64 a0_8, .int .i64 a0_9, .int .i64 a0_10, .int .i64 a0_11, .int .i64 a0_12] 36 (0, 0)) (by (with_reducible repeat (first | refine blk_drewN ?_ _ | refine blk_drew ?_ | refine blk_alloc ?_ _)); exact BK138.out) hb); have n2_ := Aside0.mk (below_step (by repeat (first | (with_reducible first | exact HB.out | apply below_alloc | apply pw_below_drewN | apply below_drew1 | refine below_set ?_ GE138.out) | exact HB.out)) hb); clear HO141; clear BK138; clear HB; have HO141 := n0_; have BK138 := n1_; have HB := n2_; clear n0_ n1_ n2_; (try clear hb); (try clear hb2); (try clear hk); (try clear hi)))
 go_ret
 exact ⟨by first | rfl | (simp [errW_none, errW_some] <;> rfl) | (simp [*, errW_none, errW_some] <;> rfl), by repeat (first | (with_reducible first | exact HB.out | apply below_alloc | apply pw_below_drewN | apply below_drew1 | refine below_set ?_ GE138.out) | exact HB.out)⟩
end Go.Proofs.YthljanmfanppdaaDoor.KLk
end
section
namespace Go.Proofs.YthljanmfanppdaaDoor.Kw
open Go.RowKit Go.Proofs.YthljanmfanppdaaDoorW.PrintWords Go.Proofs.YthljanmfanppdaaDoorW.PrintLast Go.Proofs.YthljanmfanppdaaDoorW.PrintMore
set_option linter.unusedVariables false
def cfLeast (i : Int) : Int := if i = 5 then 0 else if i = 6 then 0 else if i = 7 then 0 else if i = 11 then 0 else if i = 12 then 0 else 1
def cfMost (i : Int) : Int := if i = 0 then 64 else if i = 1 then 8 else if i = 2 then 6 else if i = 3 then 4096 else if i = 4 then 8192 else if i = 6 then 4294967295 else if i = 7 then 256 else if i = 12 then 31 else 1073741823
theorem thirteen {i : Int} (h0 : 0 ≤ i) (h1 : i < 13) : i = 0 ∨ i = 1 ∨ i = 2 ∨ i = 3 ∨ i = 4 ∨ i = 5 ∨ i = 6 ∨ i = 7 ∨ i = 8 ∨ i = 9 ∨ i = 10 ∨ i = 11 ∨ i = 12 := by omega
def cfBad (l : List Int) : Nat → Int → Int × Int
 | 0, _ => (0, 0)
 | d + 1, i => if l.getD i.toNat 0 < cfLeast i ∨ cfMost i < l.getD i.toNat 0 then (i, 7) else cfBad l d (i + 1)
theorem cfThirteen (l : List Int) (hl : l.length = 13) : ∃ c0 c1 c2 c3 c4 c5 c6 c7 c8 c9 c10 c11 c12, l = [c0, c1, c2, c3, c4, c5, c6, c7, c8, c9, c10, c11, c12] := by
 match l, hl with
 | [c0, c1, c2, c3, c4, c5, c6, c7, c8, c9, c10, c11, c12], _ => exact ⟨_, _, _, _, _, _, _, _, _, _, _, _, _, rfl⟩
theorem plan_List.go (l : List Int) (hl : l.length = 13) (w : World) :
  Calls Tryd.prog 23 #[.agg (l.map (Value.int .i64)).toArray] w fun e w' => e = .returned (.agg (l.map (Value.int .i64)).toArray) ∧ Below w.heap.size w w' := by
 obtain ⟨c0, c1, c2, c3, c4, c5, c6, c7, c8, c9, c10, c11, c12, rfl⟩ := cfThirteen l hl
 have hu32 := Tryd.underlying66
 have hu36 := Tryd.underlying36
 clear hl
 simp only [List.map_cons, List.map_nil]
 go_enter Tryd.func23, Tryd.ntmps23
 go_wp2
 refine bodyPost_ret (v := .agg #[.int .i64 c0, .int .i64 c1, .int .i64 c2, .int .i64 c3, .int .i64 c4, .int .i64 c5, .int .i64 c6, .int .i64 c7, .int .i64 c8, .int .i64 c9, .int .i64 c10, .int .i64 c11, .int .i64 c12]) (by simp [results, Tryd.results23, go_sem]) rfl ⟨rfl, ?_⟩
 repeat (first | exact Below.refl _ _ | apply below_alloc)
def cfSpans : Array Value := #[.int .i64 1, .int .i64 64, .int .i64 1, .int .i64 8, .int .i64 1, .int .i64 6, .int .i64 1, .int .i64 4096, .int .i64 1, .int .i64 8192, .int .i64 0, .int .i64 1073741823, .int .i64 0, .int .i64 4294967295, .int .i64 0, .int .i64 256, .int .i64 1, .int .i64 1073741823, .int .i64 1, .int .i64 1073741823, .int .i64 1, .int .i64 1073741823, .int .i64 0, .int .i64 1073741823, .int .i64 0, .int .i64 31]
theorem cfSpanCells (i : Int) (h0 : 0 ≤ i) (h1 : i < 13) : cfSpans[i.toNat * 2]? = some (.int .i64 (cfLeast i)) ∧ cfSpans[i.toNat * 2 + 1]? = some (.int .i64 (cfMost i)) := by
 rcases thirteen h0 h1 with rfl | rfl | rfl | rfl | rfl | rfl | rfl | rfl | rfl | rfl | rfl | rfl | rfl <;> exact ⟨rfl, rfl⟩
set_option maxRecDepth 100000 in
theorem cfIndex (l : List Int) (hl : l.length = 13) (i : Nat) (hi : i < 13) (w : World) :
  (Instr.index 66 (.agg (l.map (Value.int .i64)).toArray) (.int .i64 (i : Int))).run Tryd.prog w = .ok (.int .i64 (l.getD i 0)) w := by
 obtain ⟨c0, c1, c2, c3, c4, c5, c6, c7, c8, c9, c10, c11, c12, rfl⟩ := cfThirteen l hl
 have : i = 0 ∨ i = 1 ∨ i = 2 ∨ i = 3 ∨ i = 4 ∨ i = 5 ∨ i = 6 ∨ i = 7 ∨ i = 8 ∨ i = 9 ∨ i = 10 ∨ i = 11 ∨ i = 12 := by omega
 simp only [List.map_cons, List.map_nil]
 rcases this with rfl | rfl | rfl | rfl | rfl | rfl | rfl | rfl | rfl | rfl | rfl | rfl | rfl <;> rfl
theorem gate_load {P : Program} {ops : Array Oper} {o : Oper} {rest : List Oper} {a : Act} {Q : Exit → Act → World → Prop} {W : World} {t : TypeId} {p : Tmp} (_ho : o.op = .load t (.tmp p)) (h : wpList P ops Q (o :: rest) a W) : wpList P ops Q (o :: rest) a W := h
theorem heap_one (w : World) (o1 o2 : Obj) (cs : Array Value) : (((w.alloc o1).alloc o2).setRow (w.heap.size + 1) cs).heap[w.heap.size]? = some o1 := by
 rw [setRow_other _ _ _ _ (by omega), Below.heap_alloc _ _ _ (by simp)]
 exact heap_alloc_new w o1
theorem heap_two (w : World) (o1 o2 : Obj) : ((w.alloc o1).alloc o2).heap[w.heap.size + 1]? = some o2 := by
 have := heap_alloc_new (w.alloc o1) o2
 simpa using this
set_option maxHeartbeats 1000000 in
set_option maxRecDepth 100000 in
theorem plan_Check.go (l : List Int) (hl : l.length = 13) (w : World) :
  Calls Tryd.prog 16 #[.agg (l.map (Value.int .i64)).toArray] w fun e w' => e = .returned (.tuple #[.int .i64 (cfBad l 13 0).1, .int .i64 (cfBad l 13 0).2]) ∧ Below w.heap.size w w' := by
 have hu36 := Tryd.underlying36
 have hu131 := Tryd.underlying64
 have hu132 := Tryd.underlying65
 have HX := Aside0.mk (fun i hi w => cfIndex l hl i hi w)
 have HG := Aside0.mk (fun w => plan_List.go l hl w)
 obtain ⟨c0, c1, c2, c3, c4, c5, c6, c7, c8, c9, c10, c11, c12, e⟩ := cfThirteen l hl
 rw [e] at HX HG ⊢
 have HE := Aside0.mk e
 clear hl e
 simp only [List.map_cons, List.map_nil] at HX HG ⊢
 go_enter Tryd.func16, Tryd.ntmps16
 go_wp2_with (first | ((with_reducible refine gate_store (t := 65) rfl ?_); refine wpList_store_row rfl 65 _ _ rfl (w.heap.size + 1) cfSpans rfl rfl 65 _ (heap_two _ _ _) (by kernel_rfl) (by kernel_rfl) (by kernel_rfl) ?_) | ((with_reducible refine gate_load (t := 36) rfl ?_); refine wpList_load_row rfl 36 _ rfl w.heap.size rfl 36 _ (0, 0) _ (heap_one _ _ _ _) hu36 rfl (by kernel_rfl) ?_) | fail)
 (with_reducible refine (HG.out _).mono ?_)
 rintro e w1 ⟨rfl, hb⟩
 have HC : Aside0 (∀ i : Int, 0 ≤ i → i < 13 → w1.cell? ⟨w.heap.size + 1, i.toNat * 2, none⟩ = some (.int .i64 (cfLeast i)) ∧ w1.cell? ⟨w.heap.size + 1, i.toNat * 2 + 1, none⟩ = some (.int .i64 (cfMost i))) := ⟨fun i h0 h1 => by
  have hc := cfSpanCells i h0 h1
  rw [hb.cell (by simp), hb.cell (by simp), cell_setRow_same _ _ _ _ _ _ _ (heap_two _ _ _), cell_setRow_same _ _ _ _ _ _ _ (heap_two _ _ _)]
  exact hc⟩
 have HB : Aside0 (Below w.heap.size w w1) := ⟨below_then (below_setRow (below_alloc (below_alloc (Below.refl _ _) _) _) (by omega) _) (by simp; omega) hb⟩
 clear hb
 go_wp2_with fail
 obtain ⟨cv, hcv⟩ : ∃ cv : Value, cv = .agg #[.int .i64 c0, .int .i64 c1, .int .i64 c2, .int .i64 c3, .int .i64 c4, .int .i64 c5, .int .i64 c6, .int .i64 c7, .int .i64 c8, .int .i64 c9, .int .i64 c10, .int .i64 c11, .int .i64 c12] := ⟨_, rfl⟩
 rw [← hcv] at HX ⊢
 clear hcv HG
 go_loopw [23] (fun v wr => ∃ i : Nat, v = .int .i64 (i : Int) ∧ Aside0 (i ≤ 13 ∧ cfBad l (13 - i) i = cfBad l 13 0 ∧ Below w.heap.size w wr ∧ ∀ a, wr.cell? a = w1.cell? a)) (fun v _ => 13 - (intOf v).toNat)
 case atStart => exact ⟨0, rfl, ⟨by omega, rfl, HB.out, fun _ => rfl⟩⟩
 case round =>
  obtain ⟨i, rfl, H⟩ := hrel
  have hle := H.out.1
  by_cases hlt : i < 13
  ·obtain ⟨x, hx'⟩ : ∃ x, x = l.getD i 0 := ⟨_, rfl⟩
   have hx : ∀ W, (Instr.index 66 cv (.int .i64 (i : Int))).run Tryd.prog W = .ok (.int .i64 x) W := fun W => by
    rw [hx', HE.out]
    exact HX.out i hlt W
   have HQ0 : Aside0 (cfBad l (13 - i) i = if x < cfLeast i ∨ cfMost i < x then ((i : Int), 7) else cfBad l (12 - i) ((i : Int) + 1)) := ⟨by
    rw [show 13 - i = (12 - i) + 1 from by omega, cfBad, hx']; rfl⟩
   clear hx'
   have H0 : (0 : Int) ≤ i := by omega
   have H1 : (i : Int) < 13 := by omega
   obtain ⟨lo, hlo⟩ : ∃ lo, lo = cfLeast i := ⟨_, rfl⟩
   obtain ⟨hi, hhi⟩ : ∃ hi, hi = cfMost i := ⟨_, rfl⟩
   have hc := HC.out (i : Int) H0 H1
   rw [← hlo, ← hhi] at hc HQ0
   obtain ⟨hc1, hc2⟩ := hc
   have hl1 : wr.cell? ⟨w.heap.size + 1, i * 2, none⟩ = some (.int .i64 lo) := (H.out.2.2.2 _).trans hc1
   have hl2 : wr.cell? ⟨w.heap.size + 1, i * 2 + 1, none⟩ = some (.int .i64 hi) := (H.out.2.2.2 _).trans hc2
   clear hlo hhi hc1 hc2
   have hq := H.out.2.1
   rw [HQ0.out] at hq
   have HQ := Aside0.mk hq
   clear hq HQ0
   by_cases ha : x < lo
   ·have ca : decide (x < lo) = true := decide_eq_true ha
    have hq := HQ.out
    rw [if_pos (.inl ha)] at hq
    have HR := Aside0.mk hq
    clear ha hq HQ
    go_wp2
    go_ret2
    exact ⟨by rw [← HE.out, ← HR.out]; rfl, H.out.2.2.1⟩
   ·have ca : decide (x < lo) = false := decide_eq_false ha
    by_cases hb : hi < x
    ·have cb : decide (hi < x) = true := decide_eq_true hb
     have hq := HQ.out
     rw [if_pos (.inr hb)] at hq
     have HR := Aside0.mk hq
     clear ha hb hq HQ
     go_wp2
     go_ret2
     exact ⟨by rw [← HE.out, ← HR.out]; rfl, H.out.2.2.1⟩
    ·have cb : decide (hi < x) = false := decide_eq_false hb
     have hq := HQ.out
     rw [if_neg (by rintro (h | h) <;> omega)] at hq
     have HR := Aside0.mk hq
     clear ha hb hq HQ
     go_wp2
     go_roundw
     case rel => exact ⟨i + 1, by go_num, ⟨by omega, by rw [show 13 - (i + 1) = 12 - i from by omega]; exact HR.out, H.out.2.2.1, H.out.2.2.2⟩⟩
     case measure => simp [intOf]; omega
  ·have hq := H.out.2.1
   rw [show 13 - i = 0 from by omega, cfBad] at hq
   have HR := Aside0.mk hq
   have ct : decide ((i : Int) < 13) = false := by simp; omega
   clear hq hlt hle
   go_wp2
   go_ret2
   exact ⟨by rw [← HE.out, ← HR.out]; rfl, H.out.2.2.1⟩
end Go.Proofs.YthljanmfanppdaaDoor.Kw
end
section
namespace Go.Proofs.YthljanmfanppdaaDoor.PureLk
open Go.RowKit Go.Proofs.YthljanmfanppdaaDoor.KLk Go.Proofs.YthljanmfanppdaaDoorW.PrintWords Go.Proofs.YthljanmfanppdaaDoorW.PrintLast Go.Proofs.YthljanmfanppdaaDoorW.PrintMore
open Go.Proofs.YthljanmfanppdaaDoor.Kw (cfBad cfLeast cfMost)
def cl (t : Int) : Int := if t < 0 then 0 else if 1073741823 < t then 1073741823 else t
theorem cl_bd (t : Int) : 0 ≤ cl t ∧ cl t ≤ 1073741823 := by
 unfold cl
 repeat' split
 all_goals omega
theorem cl_id {t : Int} (h0 : 0 ≤ t) (h1 : t ≤ 1073741823) : cl t = t := by unfold cl; rw [if_neg (by omega), if_neg (by omega)]
theorem w64 {x : Int} (h0 : -9223372036854775808 ≤ x) (h1 : x < 9223372036854775808) : wrap64 x = x := by
 unfold wrap64; omega
theorem clock_is (t : Int) : round_clock.f t = some (cl t) := by
 unfold round_clock.f mn mx cl
 congr 1
 repeat' split
 all_goals omega
def add (s t : Int) : Int := cl (s + cl t)
def sum (l : List Int) (s : Int) : Int := l.foldl add s
theorem drop_step (l : List Int) (i : Nat) (h : i < l.length) : l.drop i = l[i] :: l.drop (i + 1) := List.drop_eq_getElem_cons h
theorem rd_nat (l : List Int) (i : Nat) (h : i < l.length) : rd l (i : Int) = l[i] := by
 unfold rd
 simp [List.getD_eq_getElem?_getD, h]
theorem plus_loop (l : List Int) (hl : l.length ≤ 17592186044416) : ∀ (d k i : Nat) (s : Int), i + d = l.length → d < k → 0 ≤ s → s ≤ 1073741823 →
  round_Plus.l0 k s l (l.length : Int) (i : Int) = some (sum (l.drop i) s) := by
 intro d
 induction d with
 | zero =>
  intro k i s hi hk _ _
  obtain ⟨k, rfl⟩ : ∃ m, k = m + 1 := ⟨k - 1, by omega⟩
  simp only [round_Plus.l0]
  rw [if_neg (by omega), List.drop_eq_nil_of_le (by omega)]; rfl
 | succ d ih =>
  intro k i s hi hk h0 h1
  obtain ⟨k, rfl⟩ : ∃ m, k = m + 1 := ⟨k - 1, by omega⟩
  have hb := cl_bd (rd l (i : Int))
  simp only [round_Plus.l0]
  rw [if_pos (by omega), if_pos (by omega), if_pos (by omega)]
  simp only [clock_is, Option.bind_some]
  rw [w64 (x := s + cl (rd l (i : Int))) (by omega) (by omega), w64 (x := (i : Int) + 1) (by omega) (by omega)]
  have e : ((i : Int) + 1) = ((i + 1 : Nat) : Int) := by omega
  rw [e, ih k (i + 1) (cl (s + cl (rd l (i : Int)))) (by omega) (by omega) (cl_bd _).1 (cl_bd _).2, drop_step l i (by omega), rd_nat l i (by omega)]
  rfl
theorem plus_is (l : List Int) (hl : l.length ≤ 17592186044416) (k : Nat) (hk : l.length < k) : round_Plus.f k l = some (sum l 0) := by
 unfold round_Plus.f
 exact plus_loop l hl l.length k 0 0 (by omega) hk (by omega) (by omega)
theorem sum_one (a : Int) : sum [a] 0 = cl a := by
 show cl (0 + cl a) = cl a
 have := cl_bd a
 rw [show 0 + cl a = cl a by omega, cl_id this.1 this.2]
def dbl : Nat → Int → Int
 | 0, b => b
 | n + 1, b => dbl n (mn (b * 2) 1073741823)
theorem mn_bd {b : Int} (h : 0 ≤ b) : 0 ≤ mn (b * 2) 1073741823 ∧ mn (b * 2) 1073741823 ≤ 1073741823 := by unfold mn; split <;> omega
def wt (b m a : Int) : Int := mn (dbl (mn (mx a 0) 31).toNat (cl b)) (cl m)
theorem wait_loop (m : Int) : ∀ (d k i : Nat) (n : Int) (b : Int), (i : Int) + d = n → n ≤ 31 → d < k → 0 ≤ b → b ≤ 1073741823 → backoff_Wait.l0 k b m n (i : Int) = some (mn (dbl d b) m) := by
 intro d
 induction d with
 | zero =>
  intro k i n b hi hn hk _ _
  obtain ⟨k, rfl⟩ : ∃ j, k = j + 1 := ⟨k - 1, by omega⟩
  simp only [backoff_Wait.l0]
  rw [if_neg (by omega)]; rfl
 | succ d ih =>
  intro k i n b hi hn hk h0 h1
  obtain ⟨k, rfl⟩ : ∃ j, k = j + 1 := ⟨k - 1, by omega⟩
  simp only [backoff_Wait.l0]
  rw [if_pos (by omega), w64 (x := b * 2) (by omega) (by omega), w64 (x := (i : Int) + 1) (by omega) (by omega)]
  have e : ((i : Int) + 1) = ((i + 1 : Nat) : Int) := by omega
  rw [e, ih k (i + 1) n _ (by omega) hn (by omega) (mn_bd h0).1 (mn_bd h0).2]
  rfl
theorem att_bd (a : Int) : 0 ≤ mn (mx a 0) 31 ∧ mn (mx a 0) 31 ≤ 31 := by
 unfold mn mx
 repeat' split
 all_goals omega
theorem wait_is (b m a : Int) (k : Nat) (hk : 40 ≤ k) : backoff_Wait.f k b m a = some (wt b m a) := by
 unfold backoff_Wait.f
 rw [plus_is [b] (by simp) k (by simp; omega), Option.bind_some, plus_is [m] (by simp) k (by simp; omega), Option.bind_some, sum_one, sum_one]
 have h := att_bd a
 have hb := cl_bd b
 exact wait_loop (cl m) (mn (mx a 0) 31).toNat k 0 _ (cl b) (by omega) h.2 (by omega) hb.1 hb.2
def jit (d m : Int) : Int := mx d 0 % (cl m + 1)
theorem jitter_is (d m : Int) (k : Nat) (hk : 40 ≤ k) : backoff_Jitter.f k d m = some (jit d m) := by
 have := cl_bd m
 unfold backoff_Jitter.f
 rw [plus_is [m] (by simp) k (by simp; omega), Option.bind_some, sum_one, w64 (x := cl m + 1) (by omega) (by omega), if_neg (by omega)]
 rfl
section
variable (c0 c1 c2 c3 c4 c5 c6 c7 c8 c9 c10 c11 c12 : Int)
def due (now a d : Int) : Int := sum [now, wt c9 c10 a, jit d c11] 0
def idle (last : Int) : Int := sum [last, c8] 0
theorem due_is (now a d : Int) (k : Nat) (hk : 40 ≤ k) : backoff_Due.f k c0 c1 c2 c3 c4 c5 c6 c7 c8 c9 c10 c11 c12 now a d = some (due c9 c10 c11 now a d) := by
 unfold backoff_Due.f
 rw [wait_is _ _ _ k hk, Option.bind_some, jitter_is _ _ k hk, Option.bind_some, plus_is _ (by simp) k (by simp; omega)]
 rfl
theorem idle_is (last : Int) (k : Nat) (hk : 40 ≤ k) : backoff_Idle.f k c0 c1 c2 c3 c4 c5 c6 c7 c8 c9 c10 c11 c12 last = some (idle c8 last) := by
 unfold backoff_Idle.f
 rw [plus_is _ (by simp) k (by simp; omega)]
 rfl
end
section
variable (c0 c1 c2 c3 c4 c5 c6 c7 c8 c9 c10 c11 c12 : Int)
end
end Go.Proofs.YthljanmfanppdaaDoor.PureLk
end
section
namespace Go.Proofs.YthljanmfanppdaaDoor.Bk
open Go.RowKit Go.Maps Go.Proofs.YthljanmfanppdaaDoorW.PrintWords Go.Proofs.YthljanmfanppdaaDoorW.PrintLast Go.Proofs.YthljanmfanppdaaDoorW.PrintMore Go.Proofs.YthljanmfanppdaaDoor.Mp Go.Proofs.YthljanmfanppdaaDoor.KLk
open Go.Proofs.YthljanmfanppdaaDoor.Kw (cfBad cfLeast cfMost)
set_option linter.unusedVariables false
set_option linter.unusedSimpArgs false
def ownB (op : Int) : Bool := decide (1 ≤ op) && decide (op ≤ 5)
def lkOk (k op : Int) : Bool := (k == 1 && op == 0) || ((k == 2 || k == 5) && (ownB op || op == 6)) || (k == 3 && ownB op) || (k == 4 && (op == 7 || op == 8))
def lkW (k : Int) : Bool := k == 2 || k == 3 || k == 4 || k == 5
def lkC (k op : Int) : Bool := (k == 2 && ownB op) || k == 3 || k == 4
def lkT (k er : Int) : Bool := k == 1 || (k == 3 && !(er == 1 || er == 3 || er == 6)) || k == 4
def lkD (k op : Int) : Bool := k == 2 && op == 4
def lkE (k op : Int) : Bool := k == 3 || (k == 5 && ownB op)
def lrB (k wk op cn t dr er : Int) : Bool :=
 lkOk k op && (!decide (wk < 0) && (!decide (t < 0) && (!decide (er < 0) && (!(k == 4 && decide (cn < 0)) && ((lkW k || wk == 0) && ((lkC k op || cn == 0) && ((lkT k er || t == 0) && ((lkD k op || dr == 0) && (lkE k op || er == 0)))))))))
theorem shape_is (n : Nat) (k wk op cn t dr er : Int) : link_shapeOf.f (n + 1) k wk op cn t dr er = some (lkW k, lkC k op, lkT k er, lkD k op, lkE k op, lkOk k op) := by
 have h : link_shapeOf.f (n + 1) k wk op cn t dr er = link_shapeOf.j0 (n + 1) (ownB op) k wk op cn t dr er := by
  unfold link_shapeOf.f ownB
  by_cases h : op ≥ 1
  ·rw [if_pos h, decide_eq_true (show 1 ≤ op from h)]; rfl
  ·rw [if_neg h, decide_eq_false (show ¬ 1 ≤ op from h)]; rfl
 rw [h]
 simp only [link_shapeOf.j0]
 generalize ho : ownB op = o
 by_cases k1 : k = 1
 ·subst k1; simp [lkW, lkC, lkT, lkD, lkE, lkOk]
 by_cases k2 : k = 2
 ·subst k2; cases o <;> simp [lkW, lkC, lkT, lkD, lkE, lkOk, ho]
 by_cases k3 : k = 3
 ·subst k3
  by_cases e1 : er = 1
  ·simp [lkW, lkC, lkT, lkD, lkE, lkOk, ho, e1]
  by_cases e3 : er = 3
  ·simp [lkW, lkC, lkT, lkD, lkE, lkOk, ho, e3]
  ·simp [lkW, lkC, lkT, lkD, lkE, lkOk, ho, e1, e3]
 by_cases k4 : k = 4
 ·subst k4
  by_cases o7 : op = 7
  ·simp [lkW, lkC, lkT, lkD, lkE, lkOk, o7]
  ·simp [lkW, lkC, lkT, lkD, lkE, lkOk, o7]
 by_cases k5 : k = 5
 ·subst k5; cases o <;> simp [lkW, lkC, lkT, lkD, lkE, lkOk, ho]
 simp [lkW, lkC, lkT, lkD, lkE, lkOk, k1, k2, k3, k4, k5]
theorem nought_is (b : Bool) (n : Int) : link_nought.f b n = some (b || n == 0) := by
 unfold link_nought.f
 cases b <;> simp
theorem right_is (n : Nat) (k wk op cn t dr er : Int) : link_Right.f (n + 1) k wk op cn t dr er = some (lrB k wk op cn t dr er) := by
 unfold link_Right.f lrB
 rw [shape_is]
 simp only [Option.bind_some]
 generalize lkOk k op = b0
 generalize lkW k = b1
 generalize lkC k op = b2
 generalize lkT k er = b3
 generalize lkD k op = b4
 generalize lkE k op = b5
 have j : ∀ x : Bool, link_Right.j0 (n + 1) x k wk op cn t dr er b1 b2 b3 b4 b5 = some (!x && ((b1 || wk == 0) && ((b2 || cn == 0) && ((b3 || t == 0) && ((b4 || dr == 0) && (b5 || er == 0)))))) := fun x => by
  simp only [link_Right.j0, nought_is, Option.bind_some]
  cases x
  ·generalize (b1 || wk == 0) = q1
   generalize (b2 || cn == 0) = q2
   generalize (b3 || t == 0) = q3
   generalize (b4 || dr == 0) = q4
   generalize (b5 || er == 0) = q5
   cases q1 <;> cases q2 <;> cases q3 <;> cases q4 <;> simp
  ·simp
 simp only [j]
 cases b0
 ·simp
 ·by_cases h1 : wk < 0
  ·simp [h1]
  by_cases h2 : t < 0
  ·simp [h1, h2]
  by_cases h3 : er < 0
  ·simp [h1, h2, h3]
  by_cases h4 : k = 4
  ·simp [h1, h2, h3, h4]
  ·simp [h1, h2, h3, h4]
theorem right_calls (k wk op cn t dr er : Int) (W : World) : Calls Tryd.prog 13 #[.agg (evA k wk op cn t dr er)] W fun e w' => e = .returned (.bool (lrB k wk op cn t dr er)) ∧ Below W.heap.size W w' :=
 link_Right.calls 1 k wk op cn t dr er _ W (right_is 0 k wk op cn t dr er)
def dueI (c : Cf) (now att draw : Int) : Int := PureLk.due c.c9 c.c10 c.c11 now att draw
def idleI (c : Cf) (last : Int) : Int := PureLk.idle c.c8 last
theorem due_calls (c : Cf) (now att draw : Int) (W : World) : Calls Tryd.prog 25 #[.agg c.cells, .int .i64 now, .int .i64 att, .int .i64 draw] W fun e w' => e = .returned (.int .i64 (dueI c now att draw)) ∧ Below W.heap.size W w' :=
 KLk.backoff_Due.calls 40 _ _ _ _ _ _ _ _ _ _ _ _ _ now att draw _ W (PureLk.due_is _ _ _ _ _ _ _ _ _ _ _ _ _ now att draw 40 (Nat.le_refl _))
theorem idle_calls (c : Cf) (last : Int) (W : World) : Calls Tryd.prog 24 #[.agg c.cells, .int .i64 last] W fun e w' => e = .returned (.int .i64 (idleI c last)) ∧ Below W.heap.size W w' :=
 KLk.backoff_Idle.calls 40 _ _ _ _ _ _ _ _ _ _ _ _ _ last _ W (PureLk.idle_is _ _ _ _ _ _ _ _ _ _ _ _ _ last 40 (Nat.le_refl _))
def afterF (c : Cf) (F : SM) (op cn t draw : Int) : St × Int × Bool :=
 if op = 1 ∧ (F.at_ cn).1 = 0 ∧ cn ≥ 0 ∧ cn < c.c7 then ((1, 0, t), 0, true)
 else if op = 2 ∧ (F.at_ cn).1 = 1 then ((1, (F.at_ cn).2.1, if t ≤ (F.at_ cn).2.2 then (F.at_ cn).2.2 else t), 0, true)
 else if op = 3 ∧ ¬ (F.at_ cn).1 = 0 then ((0, 0, 0), 0, true)
 else if op = 5 ∧ (F.at_ cn).1 = 3 then ((1, 0, t), 0, true)
 else if op = 4 ∧ ((F.at_ cn).1 = 1 ∨ (F.at_ cn).1 = 3) then
  if (F.at_ cn).2.1 ≥ c.c12 then ((0, 0, 0), 5, true) else ((2, wrap64 ((F.at_ cn).2.1 + 1), dueI c t (F.at_ cn).2.1 draw), 0, true)
 else (F.at_ cn, 0, false)
theorem after_any {g m s : Nat} {c : Cf} {clock : Int} {F : SM} (k wk op cn t dr er draw : Int) (hx : (Lit.int .i64 cn).wf = true) (w : World) (hB : BookIs w g m s c clock F) :
  Calls Tryd.prog 18 #[.pointer (some ⟨g, 0, none⟩), .agg (evA k wk op cn t dr er), .int .i64 draw] w (AfterPost (afterF c F op cn t draw).1 (afterF c F op cn t draw).2.1 (afterF c F op cn t draw).2.2 w) := by
 unfold afterF
 by_cases o1 : op = 1
 ·subst o1
  by_cases ha : (F.at_ cn).1 = 0
  ·by_cases hin : cn ≥ 0 ∧ cn < c.c7
   ·rw [if_pos ⟨rfl, ha, hin⟩]
    exact after_open k wk 1 cn t dr er draw hx rfl ha hin w hB
   ·rw [if_neg (fun q => hin q.2.2), if_neg (by omega), if_neg (by omega), if_neg (by omega), if_neg (by omega)]
    exact after_none1b k wk 1 cn t dr er draw hx rfl ha hin w hB
  ·rw [if_neg (fun q => ha q.2.1), if_neg (by omega), if_neg (by omega), if_neg (by omega), if_neg (by omega)]
   exact after_none1 k wk 1 cn t dr er draw hx rfl ha w hB
 rw [if_neg (fun q => o1 q.1)]
 by_cases o2 : op = 2
 ·subst o2
  by_cases ha : (F.at_ cn).1 = 1
  ·rw [if_pos ⟨rfl, ha⟩]
   by_cases hd : t ≤ (F.at_ cn).2.2
   ·rw [if_pos hd]
    exact after_touch_b k wk 2 cn t dr er draw hx rfl ha hd w hB
   ·rw [if_neg hd]
    exact after_touch_a k wk 2 cn t dr er draw hx rfl ha hd w hB
  ·rw [if_neg (fun q => ha q.2), if_neg (by omega), if_neg (by omega), if_neg (by omega)]
   exact after_none2 k wk 2 cn t dr er draw hx rfl ha w hB
 rw [if_neg (fun q => o2 q.1)]
 by_cases o3 : op = 3
 ·subst o3
  by_cases ha : (F.at_ cn).1 = 0
  ·rw [if_neg (fun q => q.2 ha), if_neg (by omega), if_neg (by omega)]
   exact after_none3 k wk 3 cn t dr er draw hx rfl ha w hB
  ·rw [if_pos ⟨rfl, ha⟩]
   exact after_close k wk 3 cn t dr er draw hx rfl ha w hB
 rw [if_neg (fun q => o3 q.1)]
 by_cases o5 : op = 5
 ·subst o5
  by_cases ha : (F.at_ cn).1 = 3
  ·rw [if_pos ⟨rfl, ha⟩]
   exact after_success k wk 5 cn t dr er draw hx rfl ha w hB
  ·rw [if_neg (fun q => ha q.2), if_neg (by omega)]
   exact after_none5 k wk 5 cn t dr er draw hx rfl ha w hB
 rw [if_neg (fun q => o5 q.1)]
 by_cases o4 : op = 4
 ·subst o4
  by_cases ha : (F.at_ cn).1 = 1 ∨ (F.at_ cn).1 = 3
  ·rw [if_pos ⟨rfl, ha⟩]
   by_cases hb : (F.at_ cn).2.1 ≥ c.c12
   ·rw [if_pos hb]
    rcases ha with ha | ha
    ·exact after_fail1 k wk 4 cn t dr er draw hx rfl ha hb w hB
    ·exact after_fail3 k wk 4 cn t dr er draw hx rfl ha hb w hB
   ·rw [if_neg hb, ← IntWalk.i64_left]
    rcases ha with ha | ha
    ·exact after_wait1 k wk 4 cn t dr er draw hx _ rfl ha hb (fun W => due_calls c t _ draw W) w hB
    ·exact after_wait3 k wk 4 cn t dr er draw hx _ rfl ha hb (fun W => due_calls c t _ draw W) w hB
  ·rw [if_neg (fun q => ha q.2)]
   exact after_none4 k wk 4 cn t dr er draw hx rfl ⟨fun q => ha (.inl q), fun q => ha (.inr q)⟩ w hB
 rw [if_neg (fun q => o4 q.1)]
 exact after_none k wk op cn t dr er draw hx ⟨o1, o2, o3, o4, o5⟩ w hB
theorem act_any {g m s : Nat} {c : Cf} {clock : Int} {F : SM} (k wk op cn t dr er : Int) (hx : (Lit.int .i64 cn).wf = true) (hs : s < 1000000) (w : World) (hB : BookIs w g m s c clock F) :
  Calls Tryd.prog 17 #[.pointer (some ⟨g, 0, none⟩), .agg (evA k wk op cn t dr er)] w (SetPost g m s c clock (actF F clock (idleI c (F.at_ cn).2.2) op cn t).2 w (actF F clock (idleI c (F.at_ cn).2.2) op cn t).1) := by
 unfold actF
 by_cases ht : t > clock
 ·rw [if_pos ht]
  exact act_late k wk op cn t dr er hx ht w hB
 rw [if_neg ht]
 by_cases o7 : op = 7
 ·subst o7
  by_cases ha : (F.at_ cn).1 = 1
  ·by_cases hi : idleI c (F.at_ cn).2.2 ≤ t
   ·rw [if_pos ⟨rfl, ha, hi⟩]
    exact act_idle k wk 7 cn t dr er hx hs _ ht rfl ha hi (fun W => idle_calls c _ W) w hB
   ·rw [if_neg (fun q => hi q.2.2), if_neg (by omega)]
    exact act_busy k wk 7 cn t dr er hx hs _ ht rfl ha hi (fun W => idle_calls c _ W) w hB
  ·rw [if_neg (fun q => ha q.2.1), if_neg (by omega)]
   exact act_seven k wk 7 cn t dr er hx ht rfl ha w hB
 rw [if_neg (fun q => o7 q.1)]
 by_cases h8 : op = 8 ∧ (F.at_ cn).1 = 2 ∧ (F.at_ cn).2.2 ≤ t
 ·rw [if_pos h8]
  exact act_eight k wk op cn t dr er hx hs ht h8.1 h8.2.1 h8.2.2 w hB
 ·rw [if_neg h8]
  exact act_none k wk op cn t dr er hx ht o7 h8 w hB
def doF (c : Cf) (clock : Int) (F : SM) (k wk op cn t dr er draw : Int) : Int × Int × SM :=
 if lrB k wk op cn t dr er = false then (8, clock, F)
 else if k = 1 then (if t = wrap64 (clock + 1) then (0, t, F) else (6, clock, F))
 else if k = 4 then ((actF F clock (idleI c (F.at_ cn).2.2) op cn t).1, clock, (actF F clock (idleI c (F.at_ cn).2.2) op cn t).2)
 else if k = 3 then
  if er = 1 ∨ er = 3 ∨ er = 6 ∧ (afterF c F op cn t draw).2.2 = false then (0, clock, F)
  else if (afterF c F op cn t draw).2.2 = true ∧ er = (afterF c F op cn t draw).2.1 then (0, clock, F.put cn (afterF c F op cn t draw).1)
  else (6, clock, F)
 else (8, clock, F)
theorem do_any {g m s : Nat} {c : Cf} {clock : Int} {F : SM} (k wk op cn t dr er draw : Int) (hx : (Lit.int .i64 cn).wf = true) (hs : s < 1000000) (w : World) (hB : BookIs w g m s c clock F) :
  Calls Tryd.prog 9 #[.pointer (some ⟨g, 0, none⟩), .agg (evA k wk op cn t dr er), .int .i64 draw] w (DoPost g m s c (doF c clock F k wk op cn t dr er draw) w) := by
 have CR := Aside0.mk (fun W => right_calls k wk op cn t dr er W)
 unfold doF
 cases hr : lrB k wk op cn t dr er with
 | false =>
  rw [if_pos rfl]
  exact do_wrong k wk op cn t dr er draw _ hr w hB CR
 | true =>
  rw [if_neg (by decide)]
  by_cases k1 : k = 1
  ·rw [if_pos k1]
   by_cases ht : t = wrap64 (clock + 1)
   ·rw [if_pos ht]
    exact do_tick k wk op cn t dr er draw _ hr k1 ht w hB CR
   ·rw [if_neg ht]
    exact do_tick_no k wk op cn t dr er draw _ hr k1 ht w hB CR
  rw [if_neg k1]
  by_cases k4 : k = 4
  ·rw [if_pos k4]
   exact do_act k wk op cn t dr er draw _ hr k4 _ _ (fun W h => act_any k wk op cn t dr er hx hs W h) w hB CR
  rw [if_neg k4]
  by_cases k3 : k = 3
  ·rw [if_pos k3]
   have ca : ∀ W, BookIs W g m s c clock F → Calls Tryd.prog 18 #[.pointer (some ⟨g, 0, none⟩), .agg (evA k wk op cn t dr er), .int .i64 draw] W fun e w' => e = .returned (.tuple #[stV (afterF c F op cn t draw).1, .int .i64 (afterF c F op cn t draw).2.1, .bool (afterF c F op cn t draw).2.2]) ∧ Below W.heap.size W w' := fun W h => after_any k wk op cn t dr er draw hx W h
   generalize afterF c F op cn t draw = q at ca ⊢
   obtain ⟨⟨a, b, d⟩, code, can⟩ := q
   simp only at ca ⊢
   by_cases e1 : er = 1
   ·rw [if_pos (.inl e1)]
    exact do_point_still1 k wk op cn t dr er draw _ hr k3 a b d code can ca e1 w hB CR
   by_cases e3 : er = 3
   ·rw [if_pos (.inr (.inl e3))]
    exact do_point_still3 k wk op cn t dr er draw _ hr k3 a b d code can ca e3 w hB CR
   by_cases e6 : er = 6
   ·cases can with
    | false =>
     rw [if_pos (.inr (.inr ⟨e6, rfl⟩))]
     exact do_point_still6 k wk op cn t dr er draw _ hr k3 a b d code false ca e6 rfl w hB CR
    | true =>
     rw [if_neg (by rintro (q | q | q); exact e1 q; exact e3 q; cases q.2)]
     by_cases hc : er = code
     ·rw [if_pos ⟨rfl, hc⟩]
      exact do_point_yes6 k wk op cn t dr er draw _ hs hx hr k3 a b d code true ca e6 rfl ⟨rfl, hc⟩ w hB CR
     ·rw [if_neg (fun q => hc q.2)]
      exact do_point_no6 k wk op cn t dr er draw _ hr k3 a b d code true ca e6 rfl hc w hB CR
   rw [if_neg (by rintro (q | q | q); exact e1 q; exact e3 q; exact e6 q.1)]
   cases can with
   | false =>
    rw [if_neg (by rintro ⟨q, _⟩; cases q)]
    exact do_point_nof k wk op cn t dr er draw _ hr k3 a b d code false ca ⟨e1, e3, e6⟩ rfl w hB CR
   | true =>
    by_cases hc : er = code
    ·rw [if_pos ⟨rfl, hc⟩]
     exact do_point_yes k wk op cn t dr er draw _ hs hx hr k3 a b d code true ca ⟨e1, e3, e6⟩ ⟨rfl, hc⟩ w hB CR
    ·rw [if_neg (fun q => hc q.2)]
     exact do_point_no k wk op cn t dr er draw _ hr k3 a b d code true ca ⟨e1, e3, e6⟩ rfl hc w hB CR
  ·rw [if_neg k3]
   exact do_other k wk op cn t dr er draw _ hr k1 k3 k4 w hB CR
def cfCode (c : Cf) : Int := (cfBad [c.c0, c.c1, c.c2, c.c3, c.c4, c.c5, c.c6, c.c7, c.c8, c.c9, c.c10, c.c11, c.c12] 13 0).2
theorem new_is (c : Cf) (w : World) : Calls Tryd.prog 8 #[.agg c.cells] w (NewPost c (cfCode c) w) :=
 new_any c _ _ ⟨fun W => Kw.plan_Check.go [c.c0, c.c1, c.c2, c.c3, c.c4, c.c5, c.c6, c.c7, c.c8, c.c9, c.c10, c.c11, c.c12] rfl W⟩ w
end Go.Proofs.YthljanmfanppdaaDoor.Bk
end
section
namespace Go.Proofs.YthljanmfanppdaaDoor.Bk
open Go.RowKit Go.Maps Go.Proofs.YthljanmfanppdaaDoorW.PrintWords Go.Proofs.YthljanmfanppdaaDoorW.PrintLast Go.Proofs.YthljanmfanppdaaDoorW.PrintMore Go.Proofs.YthljanmfanppdaaDoor.Mp
set_option linter.unusedVariables false
set_option linter.unusedSimpArgs false
def spC : Cf := ⟨1, 1, 1, 1, 1, 0, 0, 1, 2, 1, 1, 0, 0⟩
structure Ev7 where
 k : Int
 wk : Int
 op : Int
 cn : Int
 t : Int
 dr : Int
 er : Int
abbrev Ev7.cells (e : Ev7) : Array Value := evA e.k e.wk e.op e.cn e.t e.dr e.er
def doE (c : Cf) (s : Int × SM) (e : Ev7) (draw : Int) : Int × Int × SM := doF c s.1 s.2 e.k e.wk e.op e.cn e.t e.dr e.er draw
def spE : Nat → Ev7
 | 0 => ⟨3, 0, 1, 0, 0, 0, 0⟩
 | 1 => ⟨1, 0, 0, 0, 1, 0, 0⟩
 | 2 => ⟨4, 0, 7, 0, 1, 0, 0⟩
 | 3 => ⟨4, 0, 7, 0, 2, 0, 0⟩
 | 4 => ⟨1, 0, 0, 0, 2, 0, 0⟩
 | 5 => ⟨4, 0, 7, 0, 1, 0, 0⟩
 | _ => ⟨4, 0, 7, 0, 2, 0, 0⟩
def spS : Nat → Int × SM
 | 0 => (0, fun _ => none)
 | n + 1 => (doE spC (spS n) (spE n) 0).2
def spW (n : Nat) : Int := if n = 2 ∨ n = 3 ∨ n = 5 then 6 else 0
theorem sp_code : ∀ n, n < 7 → (doE spC (spS n) (spE n) 0).1 = spW n := by decide +kernel
theorem sp_end : (spS 7).2.at_ 0 = (0, 0, 0) := by decide +kernel
theorem sp_cf : cfCode spC = 0 := by decide +kernel
abbrev spA : Array Value := #[.int .i64 3, .int .i64 0, .int .i64 1, .int .i64 0, .int .i64 0, .int .i64 0, .int .i64 0, .int .i64 1, .int .i64 0, .int .i64 0, .int .i64 0, .int .i64 1, .int .i64 0, .int .i64 0, .int .i64 4, .int .i64 0, .int .i64 7, .int .i64 0, .int .i64 1, .int .i64 0, .int .i64 0, .int .i64 4, .int .i64 0, .int .i64 7, .int .i64 0, .int .i64 2, .int .i64 0, .int .i64 0, .int .i64 1, .int .i64 0, .int .i64 0, .int .i64 0, .int .i64 2, .int .i64 0, .int .i64 0, .int .i64 4, .int .i64 0, .int .i64 7, .int .i64 0, .int .i64 1, .int .i64 0, .int .i64 0, .int .i64 4, .int .i64 0, .int .i64 7, .int .i64 0, .int .i64 2, .int .i64 0, .int .i64 0]
structure Sp (w W : World) (g m sb n : Nat) : Prop where
 below : Below w.heap.size w W
 book : ∃ s, s ≤ n ∧ BookIs W g m s spC (spS n).1 (spS n).2
 lst : W.heap[sb]? = some (.cells spA 29 (0, 0))
 hg : w.heap.size ≤ g
 hm : w.heap.size ≤ m
 hsg : sb ≠ g
 hsm : sb ≠ m
theorem Sp.cell {w W : World} {g m sb n : Nat} (h : Sp w W g m sb n) (i : Nat) : W.cell? ⟨sb, i, none⟩ = spA[i]? := blk_cell h.lst i
theorem Sp.step {w W W1 : World} {g m sb n : Nat} (h : Sp w W g m sb n) (hb : Below W.heap.size W W1) : Sp w W1 g m sb n := by
 obtain ⟨s, hs, hB⟩ := h.book
 exact ⟨below_step h.below hb, ⟨s, hs, hB.below hb⟩, (hb.block _ (blk_lt h.lst)).trans h.lst, h.hg, h.hm, h.hsg, h.hsm⟩
theorem sp_do {w W : World} {g m sb n : Nat} (h : Sp w W g m sb n) (hn : n < 7) : Calls Tryd.prog 9 #[.pointer (some ⟨g, 0, none⟩), .agg (spE n).cells, .int .i64 0] W fun e w' => e = .returned (.int .i64 (spW n)) ∧ Sp w w' g m sb (n + 1) := by
 obtain ⟨s, hs, hB⟩ := h.book
 have hx : (Lit.int .i64 (spE n).cn).wf = true := by
  have : ∀ n, n < 7 → (Lit.int .i64 (spE n).cn).wf = true := by decide +kernel
  exact this n hn
 refine (do_any (spE n).k (spE n).wk (spE n).op (spE n).cn (spE n).t (spE n).dr (spE n).er 0 hx (by omega) W hB).mono ?_
 rintro e w' ⟨he, s', hs', hB', hch⟩
 have hc := sp_code n hn
 refine ⟨he.trans (by rw [← hc]; rfl), ⟨hch.below h.below h.below.size h.hg h.hm, ⟨s', by omega, hB'⟩, (hch.block _ (blk_lt h.lst) h.hsg h.hsm).trans h.lst, h.hg, h.hm, h.hsg, h.hsm⟩⟩
theorem sp_state {w W : World} {g m sb : Nat} (h : Sp w W g m sb 7) : Calls Tryd.prog 10 #[.pointer (some ⟨g, 0, none⟩), .int .i64 0] W fun e w' => e = .returned (stV (0, 0, 0)) ∧ Below w.heap.size w w' := by
 obtain ⟨s, hs, hB⟩ := h.book
 refine (state_any 0 (by decide) W hB).mono ?_
 rintro e w' ⟨he, hb⟩
 exact ⟨by rw [he, sp_end], below_step h.below hb⟩
set_option maxHeartbeats 4000000 in
set_option maxRecDepth 100000 in
theorem speaks_any (w : World) : Calls Tryd.prog 4 #[] w fun e w' => e = .returned (.bool true) ∧ Below w.heap.size w w' := by
 have hu2 := Tryd.underlying40
 have hu3 := Tryd.underlying29
 have CN : Aside0 (∀ W, Calls Tryd.prog 8 #[.agg #[.int .i64 1, .int .i64 1, .int .i64 1, .int .i64 1, .int .i64 1, .int .i64 0, .int .i64 0, .int .i64 1, .int .i64 2, .int .i64 1, .int .i64 1, .int .i64 0, .int .i64 0]] W (NewPost spC 0 W)) := ⟨fun W => sp_cf ▸ new_is spC W⟩
 go_enter Tryd.func4, Tryd.ntmps4
 go_wp2_with (go_at_call 8; (with_reducible refine (CN.out _).mono ?_); rintro e w1 (⟨h0, _⟩ | ⟨_, g, m, rfl, hg, hm, hB, hb⟩); (exact absurd rfl h0); have n1 := Aside0.mk hB; have n2 := Aside0.mk hb; have n3 := Aside0.mk (And.intro hg hm); clear hg hm hB hb)
 obtain ⟨sb, hsb⟩ : ∃ sb, sb = w1.heap.size + 1 + 1 := ⟨_, rfl⟩
 have HS : Aside0 (Sp w (((w1.alloc (.cells (evA 4 0 7 0 1 0 0) 29)).alloc (.cells (evA 4 0 7 0 2 0 0) 29)).alloc (.cells spA 29)) g m sb 0) :=
  ⟨⟨below_alloc (below_alloc (below_alloc n2.out _) _) _, ⟨0, Nat.le_refl _, ((n1.out.alloc _).alloc _).alloc _⟩, by rw [hsb]; simpa using heap_alloc_new ((w1.alloc (.cells (evA 4 0 7 0 1 0 0) 29)).alloc (.cells (evA 4 0 7 0 2 0 0) 29)) (.cells spA 29), n3.out.1, n3.out.2, by have := n1.out.glt; omega, by have := n1.out.mlt; omega⟩⟩
 rw [← hsb]
 clear hsb
 go_loopw [30] (fun i wr => ∃ n : Nat, n ≤ 7 ∧ i = .int .i64 n ∧ Aside0 (Sp w wr g m sb n)) (fun i _ => 7 - (intOf i).toNat)
 case atStart => exact ⟨0, by omega, rfl, HS⟩
 case round =>
  clear HS
  obtain ⟨n, hn, rfl, HS⟩ := hrel
  obtain rfl | rfl | rfl | rfl | rfl | rfl | rfl | rfl : n = 0 ∨ n = 1 ∨ n = 2 ∨ n = 3 ∨ n = 4 ∨ n = 5 ∨ n = 6 ∨ n = 7 := by omega
  ·have hc := fun i => HS.out.cell i
   have CD : Aside0 (∀ W, Sp w W g m sb 0 → Calls Tryd.prog 9 #[.pointer (some ⟨g, 0, none⟩), .agg #[.int .i64 3, .int .i64 0, .int .i64 1, .int .i64 0, .int .i64 0, .int .i64 0, .int .i64 0], .int .i64 0] W fun e w' => e = .returned (.int .i64 0) ∧ Sp w w' g m sb 1) := ⟨fun W h => sp_do h (by decide)⟩
   have hl := blk_lt HS.out.lst
   go_wp2_with (go_at_call 9; (with_reducible refine (CD.out _ (HS.out.step (below_alloc (Below.refl _ _) _))).mono ?_); rintro e w2 ⟨rfl, hS2⟩; have HS2 := Aside0.mk hS2; clear hS2)
   go_roundw
   case rel => exact ⟨1, by omega, rfl, HS2⟩
   case measure => simp [intOf]
  ·have hc := fun i => HS.out.cell i
   have CD : Aside0 (∀ W, Sp w W g m sb 1 → Calls Tryd.prog 9 #[.pointer (some ⟨g, 0, none⟩), .agg #[.int .i64 1, .int .i64 0, .int .i64 0, .int .i64 0, .int .i64 1, .int .i64 0, .int .i64 0], .int .i64 0] W fun e w' => e = .returned (.int .i64 0) ∧ Sp w w' g m sb 2) := ⟨fun W h => sp_do h (by decide)⟩
   have hl := blk_lt HS.out.lst
   go_wp2_with (go_at_call 9; (with_reducible refine (CD.out _ (HS.out.step (below_alloc (Below.refl _ _) _))).mono ?_); rintro e w2 ⟨rfl, hS2⟩; have HS2 := Aside0.mk hS2; clear hS2)
   go_roundw
   case rel => exact ⟨2, by omega, rfl, HS2⟩
   case measure => simp [intOf]
  ·have hc := fun i => HS.out.cell i
   have CD : Aside0 (∀ W, Sp w W g m sb 2 → Calls Tryd.prog 9 #[.pointer (some ⟨g, 0, none⟩), .agg #[.int .i64 4, .int .i64 0, .int .i64 7, .int .i64 0, .int .i64 1, .int .i64 0, .int .i64 0], .int .i64 0] W fun e w' => e = .returned (.int .i64 6) ∧ Sp w w' g m sb 3) := ⟨fun W h => sp_do h (by decide)⟩
   have hl := blk_lt HS.out.lst
   go_wp2_with (go_at_call 9; (with_reducible refine (CD.out _ (HS.out.step (below_alloc (Below.refl _ _) _))).mono ?_); rintro e w2 ⟨rfl, hS2⟩; have HS2 := Aside0.mk hS2; clear hS2)
   go_roundw
   case rel => exact ⟨3, by omega, rfl, HS2⟩
   case measure => simp [intOf]
  ·have hc := fun i => HS.out.cell i
   have CD : Aside0 (∀ W, Sp w W g m sb 3 → Calls Tryd.prog 9 #[.pointer (some ⟨g, 0, none⟩), .agg #[.int .i64 4, .int .i64 0, .int .i64 7, .int .i64 0, .int .i64 2, .int .i64 0, .int .i64 0], .int .i64 0] W fun e w' => e = .returned (.int .i64 6) ∧ Sp w w' g m sb 4) := ⟨fun W h => sp_do h (by decide)⟩
   have hl := blk_lt HS.out.lst
   go_wp2_with (go_at_call 9; (with_reducible refine (CD.out _ (HS.out.step (below_alloc (Below.refl _ _) _))).mono ?_); rintro e w2 ⟨rfl, hS2⟩; have HS2 := Aside0.mk hS2; clear hS2)
   go_roundw
   case rel => exact ⟨4, by omega, rfl, HS2⟩
   case measure => simp [intOf]
  ·have hc := fun i => HS.out.cell i
   have CD : Aside0 (∀ W, Sp w W g m sb 4 → Calls Tryd.prog 9 #[.pointer (some ⟨g, 0, none⟩), .agg #[.int .i64 1, .int .i64 0, .int .i64 0, .int .i64 0, .int .i64 2, .int .i64 0, .int .i64 0], .int .i64 0] W fun e w' => e = .returned (.int .i64 0) ∧ Sp w w' g m sb 5) := ⟨fun W h => sp_do h (by decide)⟩
   have hl := blk_lt HS.out.lst
   go_wp2_with (go_at_call 9; (with_reducible refine (CD.out _ (HS.out.step (below_alloc (Below.refl _ _) _))).mono ?_); rintro e w2 ⟨rfl, hS2⟩; have HS2 := Aside0.mk hS2; clear hS2)
   go_roundw
   case rel => exact ⟨5, by omega, rfl, HS2⟩
   case measure => simp [intOf]
  ·have hc := fun i => HS.out.cell i
   have CD : Aside0 (∀ W, Sp w W g m sb 5 → Calls Tryd.prog 9 #[.pointer (some ⟨g, 0, none⟩), .agg #[.int .i64 4, .int .i64 0, .int .i64 7, .int .i64 0, .int .i64 1, .int .i64 0, .int .i64 0], .int .i64 0] W fun e w' => e = .returned (.int .i64 6) ∧ Sp w w' g m sb 6) := ⟨fun W h => sp_do h (by decide)⟩
   have hl := blk_lt HS.out.lst
   go_wp2_with (go_at_call 9; (with_reducible refine (CD.out _ (HS.out.step (below_alloc (Below.refl _ _) _))).mono ?_); rintro e w2 ⟨rfl, hS2⟩; have HS2 := Aside0.mk hS2; clear hS2)
   go_roundw
   case rel => exact ⟨6, by omega, rfl, HS2⟩
   case measure => simp [intOf]
  ·have hc := fun i => HS.out.cell i
   have CD : Aside0 (∀ W, Sp w W g m sb 6 → Calls Tryd.prog 9 #[.pointer (some ⟨g, 0, none⟩), .agg #[.int .i64 4, .int .i64 0, .int .i64 7, .int .i64 0, .int .i64 2, .int .i64 0, .int .i64 0], .int .i64 0] W fun e w' => e = .returned (.int .i64 0) ∧ Sp w w' g m sb 7) := ⟨fun W h => sp_do h (by decide)⟩
   have hl := blk_lt HS.out.lst
   go_wp2_with (go_at_call 9; (with_reducible refine (CD.out _ (HS.out.step (below_alloc (Below.refl _ _) _))).mono ?_); rintro e w2 ⟨rfl, hS2⟩; have HS2 := Aside0.mk hS2; clear hS2)
   go_roundw
   case rel => exact ⟨7, by omega, rfl, HS2⟩
   case measure => simp [intOf]
  ·have CS : Aside0 (∀ W, Sp w W g m sb 7 → Calls Tryd.prog 10 #[.pointer (some ⟨g, 0, none⟩), .int .i64 0] W fun e w' => e = .returned (.agg #[.int .i64 0, .int .i64 0, .int .i64 0]) ∧ Below w.heap.size w w') := ⟨fun W h => sp_state h⟩
   go_wp2_with (go_at_call 10; (with_reducible refine (CS.out _ HS.out).mono ?_); rintro e w2 ⟨rfl, hb⟩)
   go_ret
   exact ⟨rfl, hb⟩
end Go.Proofs.YthljanmfanppdaaDoor.Bk
end
section
namespace Go.Proofs.YthljanmfanppdaaDoor.Lw
open Go.RowKit Go.Proofs.YthljanmfanppdaaDoor.Bk
set_option linter.unusedVariables false
set_option linter.unusedSimpArgs false
section
open Go.Lib
theorem dd_step (u : Nat) (h : 10 ≤ u) : decDigits u = decDigits (u / 10) ++ decDigits (u % 10) := by
 rw [decDigits, dif_neg (by omega)]
 have e : decDigits (u % 10) = [UInt8.ofNat (48 + u % 10)] := by rw [decDigits, dif_pos (by omega)]
 rw [e]
def digC (c : UInt8) : Prop := c = 45 ∨ (48 ≤ c.toNat ∧ c.toNat ≤ 57)
theorem dd_dig (u : Nat) : ∀ c ∈ decDigits u, 48 ≤ c.toNat ∧ c.toNat ≤ 57 := by
 induction u using Nat.strongRecOn with
 | ind u ih =>
  intro c hc
  by_cases h : u < 10
  ·rw [decDigits, dif_pos h] at hc
   obtain rfl := List.mem_singleton.1 hc
   rw [UInt8.toNat_ofNat']
   omega
  ·rw [dd_step u (by omega)] at hc
   rcases List.mem_append.1 hc with h1 | h1
   ·exact ih _ (by omega) c h1
   ·exact ih _ (by omega) c h1
theorem dd_ne (u : Nat) : decDigits u ≠ [] := by
 by_cases h : u < 10
 ·rw [decDigits, dif_pos h]; simp
 ·rw [decDigits, dif_neg h]; simp
def valD (l : List UInt8) : Nat := l.foldl (fun a c => a * 10 + (c.toNat - 48)) 0
theorem valD_dd (u : Nat) : valD (decDigits u) = u := by
 induction u using Nat.strongRecOn with
 | ind u ih =>
  by_cases h : u < 10
  ·rw [decDigits, dif_pos h, valD]
   simp only [List.foldl_cons, List.foldl_nil]
   rw [UInt8.toNat_ofNat']
   omega
  ·rw [decDigits, dif_neg h, valD, List.foldl_append]
   have := ih (u / 10) (by omega)
   rw [valD] at this
   rw [this]
   simp only [List.foldl_cons, List.foldl_nil]
   rw [UInt8.toNat_ofNat']
   omega
theorem itoa_dig (n : Int) : ∀ c ∈ itoa n, digC c := by
 intro c hc
 rcases Int.lt_or_le n 0 with h | h
 ·obtain ⟨u, rfl⟩ : ∃ u : Nat, n = -(u : Int) := ⟨n.natAbs, by omega⟩
  rw [itoa_neg u (by omega)] at hc
  rcases List.mem_cons.1 hc with rfl | h1
  ·exact .inl rfl
  ·exact .inr (dd_dig u c h1)
 ·obtain ⟨u, rfl⟩ : ∃ u : Nat, n = (u : Int) := ⟨n.toNat, by omega⟩
  rw [itoa_nonneg] at hc
  exact .inr (dd_dig u c hc)
theorem itoa_ne (n : Int) : itoa n ≠ [] := by
 rcases Int.lt_or_le n 0 with h | h
 ·obtain ⟨u, rfl⟩ : ∃ u : Nat, n = -(u : Int) := ⟨n.natAbs, by omega⟩
  rw [itoa_neg u (by omega)]; simp
 ·obtain ⟨u, rfl⟩ : ∃ u : Nat, n = (u : Int) := ⟨n.toNat, by omega⟩
  rw [itoa_nonneg]; exact dd_ne u
theorem dd_45 (u : Nat) (l : List UInt8) : decDigits u ≠ 45 :: l := by
 intro h
 have := dd_dig u 45 (h ▸ List.mem_cons_self ..)
 have e : (45 : UInt8).toNat = 45 := rfl
 omega
theorem itoa_inj {a b : Int} (h : itoa a = itoa b) : a = b := by
 rcases Int.lt_or_le a 0 with ha | ha <;> rcases Int.lt_or_le b 0 with hb | hb
 ·obtain ⟨u, rfl⟩ : ∃ u : Nat, a = -(u : Int) := ⟨a.natAbs, by omega⟩
  obtain ⟨v, rfl⟩ : ∃ v : Nat, b = -(v : Int) := ⟨b.natAbs, by omega⟩
  rw [itoa_neg u (by omega), itoa_neg v (by omega)] at h
  have h1 := congrArg valD (List.cons.inj h).2
  rw [valD_dd, valD_dd] at h1
  rw [h1]
 ·obtain ⟨u, rfl⟩ : ∃ u : Nat, a = -(u : Int) := ⟨a.natAbs, by omega⟩
  obtain ⟨v, rfl⟩ : ∃ v : Nat, b = (v : Int) := ⟨b.toNat, by omega⟩
  rw [itoa_neg u (by omega), itoa_nonneg] at h
  exact absurd h.symm (dd_45 v _)
 ·obtain ⟨u, rfl⟩ : ∃ u : Nat, a = (u : Int) := ⟨a.toNat, by omega⟩
  obtain ⟨v, rfl⟩ : ∃ v : Nat, b = -(v : Int) := ⟨b.natAbs, by omega⟩
  rw [itoa_neg v (by omega), itoa_nonneg] at h
  exact absurd h (dd_45 u _)
 ·obtain ⟨u, rfl⟩ : ∃ u : Nat, a = (u : Int) := ⟨a.toNat, by omega⟩
  obtain ⟨v, rfl⟩ : ∃ v : Nat, b = (v : Int) := ⟨b.toNat, by omega⟩
  rw [itoa_nonneg, itoa_nonneg] at h
  have h1 := congrArg valD h
  rw [valD_dd, valD_dd] at h1
  rw [h1]
end
def isWord (l : List UInt8) : Prop := l ≠ [] ∧ ∀ c ∈ l, c ≠ 32 ∧ c ≠ 10
theorem digC_word {c : UInt8} (h : digC c) : c ≠ 32 ∧ c ≠ 10 := by
 rcases h with rfl | h
 ·exact ⟨by decide, by decide⟩
 ·exact ⟨fun e => by rw [e] at h; exact absurd h.1 (by decide), fun e => by rw [e] at h; exact absurd h.1 (by decide)⟩
theorem itoa_word (n : Int) : isWord (Lib.itoa n) := ⟨itoa_ne n, fun c hc => digC_word (itoa_dig n c hc)⟩
theorem cut_at {m : UInt8} : ∀ {x y A B : List UInt8}, (∀ c ∈ x, c ≠ m) → (∀ c ∈ y, c ≠ m) → (A = [] ∨ ∃ l, A = m :: l) → (B = [] ∨ ∃ l, B = m :: l) → x ++ A = y ++ B → x = y ∧ A = B
 | [], [], A, B, _, _, _, _, h => ⟨rfl, h⟩
 | [], c :: y, A, B, _, hy, hA, _, h => by
  have hc := hy c (List.mem_cons_self ..)
  rcases hA with rfl | ⟨l, rfl⟩
  ·simp at h
  ·exact absurd (List.cons.inj h).1.symm hc
 | c :: x, [], A, B, hx, _, _, hB, h => by
  have hc := hx c (List.mem_cons_self ..)
  rcases hB with rfl | ⟨l, rfl⟩
  ·simp at h
  ·exact absurd (List.cons.inj h).1 hc
 | c :: x, d :: y, A, B, hx, hy, hA, hB, h => by
  obtain ⟨h1, h2⟩ := List.cons.inj h
  obtain ⟨h3, h4⟩ := cut_at (fun c hc => hx c (List.mem_cons_of_mem _ hc)) (fun c hc => hy c (List.mem_cons_of_mem _ hc)) hA hB h2
  exact ⟨by rw [h1, h3], h4⟩
def tailW (l : List (List UInt8)) : List UInt8 := l.flatMap fun x => 32 :: x
theorem tailW_nil : tailW [] = [] := rfl
theorem tailW_cons (x : List UInt8) (l : List (List UInt8)) : tailW (x :: l) = 32 :: (x ++ tailW l) := by simp [tailW]
theorem tailW_app (a b : List (List UInt8)) : tailW (a ++ b) = tailW a ++ tailW b := by simp [tailW]
theorem tailW_head (l : List (List UInt8)) : tailW l = [] ∨ ∃ r, tailW l = 32 :: r := by
 cases l with
 | nil => exact .inl rfl
 | cons x l => exact .inr ⟨_, tailW_cons x l⟩
theorem tailW_inj : ∀ {a b : List (List UInt8)}, (∀ x ∈ a, isWord x) → (∀ x ∈ b, isWord x) → tailW a = tailW b → a = b
 | [], [], _, _, _ => rfl
 | [], y :: b, _, _, h => by rw [tailW_nil, tailW_cons] at h; cases h
 | x :: a, [], _, _, h => by rw [tailW_nil, tailW_cons] at h; cases h
 | x :: a, y :: b, ha, hb, h => by
  rw [tailW_cons, tailW_cons] at h
  obtain ⟨h1, h2⟩ := cut_at (fun c hc => ((ha x (List.mem_cons_self ..)).2 c hc).1) (fun c hc => ((hb y (List.mem_cons_self ..)).2 c hc).1) (tailW_head a) (tailW_head b) (List.cons.inj h).2
  rw [h1, tailW_inj (fun x hx => ha x (List.mem_cons_of_mem _ hx)) (fun x hx => hb x (List.mem_cons_of_mem _ hx)) h2]
theorem text_inj {x y : List UInt8} {a b : List (List UInt8)} (hx : isWord x) (hy : isWord y) (ha : ∀ x ∈ a, isWord x) (hb : ∀ x ∈ b, isWord x) (h : x ++ tailW a = y ++ tailW b) : x = y ∧ a = b := by
 obtain ⟨h1, h2⟩ := cut_at (fun c hc => (hx.2 c hc).1) (fun c hc => (hy.2 c hc).1) (tailW_head a) (tailW_head b) h
 exact ⟨h1, tailW_inj ha hb h2⟩
def Fine (l : List UInt8) : Prop := (∀ c ∈ l, c ≠ 10) ∧ l.head? ≠ some 32 ∧ l.getLast? ≠ some 32 ∧ ∀ i : Nat, l[i]? = some 32 → l[i + 1]? ≠ some 32
theorem fine_word {x : List UInt8} (h : isWord x) : Fine x := by
 refine ⟨fun c hc => (h.2 c hc).2, fun e => (h.2 32 (List.mem_of_head? e)).1 rfl, fun e => (h.2 32 (List.mem_of_getLast? e)).1 rfl, fun i hi => absurd rfl (h.2 32 (List.mem_of_getElem? hi)).1⟩
theorem fine_add {x y : List UInt8} (hx : Fine x) (hx0 : x ≠ []) (hy : isWord y) : Fine (x ++ 32 :: y) := by
 have fy := fine_word hy
 refine ⟨fun c hc => ?_, ?_, ?_, fun i hi => ?_⟩
 ·rcases List.mem_append.1 hc with h | h
  ·exact hx.1 c h
  ·rcases List.mem_cons.1 h with rfl | h
   ·decide
   ·exact fy.1 c h
 ·cases x with
  | nil => exact absurd rfl hx0
  | cons a x => exact hx.2.1
 ·have : (x ++ 32 :: y).getLast? = y.getLast? := by
   cases y with
   | nil => exact absurd rfl hy.1
   | cons b y =>
    rw [List.getLast?_append, List.getLast?_cons_cons]
    rw [List.getLast?_eq_some_getLast (by simp)]
    rfl
  rw [this]
  exact fy.2.2.1
 ·rcases Nat.lt_trichotomy (i + 1) x.length with h | h | h
  ·rw [List.getElem?_append_left (by omega)] at hi
   rw [List.getElem?_append_left h]
   exact hx.2.2.2 i hi
  ·rw [List.getElem?_append_left (by omega)] at hi
   exfalso
   apply hx.2.2.1
   rw [List.getLast?_eq_getElem?]
   rw [show x.length - 1 = i by omega]
   exact hi
  ·rw [List.getElem?_append_right (by omega)]
   rw [List.getElem?_append_right (by omega)] at hi
   obtain ⟨j, hj⟩ : ∃ j, i = x.length + j := ⟨i - x.length, by omega⟩
   subst hj
   rw [show x.length + j + 1 - x.length = j + 1 by omega]
   intro e
   rw [List.getElem?_cons_succ] at e
   exact absurd rfl (hy.2 32 (List.mem_of_getElem? e)).1
theorem fine_text : ∀ {l : List (List UInt8)} {x : List UInt8}, Fine x → x ≠ [] → (∀ y ∈ l, isWord y) → Fine (x ++ tailW l)
 | [], x, hx, h0, _ => by rw [tailW_nil, List.append_nil]; exact hx
 | y :: l, x, hx, h0, hl => by
  rw [tailW_cons, show x ++ 32 :: (y ++ tailW l) = (x ++ 32 :: y) ++ tailW l by simp]
  exact fine_text (fine_add hx h0 (hl y (List.mem_cons_self ..))) (by simp) (fun z hz => hl z (List.mem_cons_of_mem _ hz))
theorem word_of_all {l : List UInt8} (h : (!l.isEmpty && l.all fun c => c != 32 && c != 10) = true) : isWord l := by
 rw [Bool.and_eq_true, List.all_eq_true] at h
 refine ⟨by intro e; rw [e] at h; exact absurd h.1 (by decide), fun c hc => ?_⟩
 have := h.2 c hc
 rw [Bool.and_eq_true] at this
 exact ⟨by simpa using this.1, by simpa using this.2⟩
theorem mem_if {c : Prop} [Decidable c] {x y : List UInt8} (h : y ∈ (if c then [x] else [])) : y = x := by
 split at h
 ·exact List.mem_singleton.1 h
 ·cases h
theorem mem_if2 {c : Prop} [Decidable c] {x y : List UInt8} (h : y ∈ (if c then [] else [x])) : y = x := by
 split at h
 ·cases h
 ·exact List.mem_singleton.1 h
def numS (n : Int) : ByteArray := ⟨(Lib.itoa n).toArray⟩
theorem numS_app (a b : List UInt8) : (⟨a.toArray⟩ : ByteArray) ++ ⟨b.toArray⟩ = ⟨(a ++ b).toArray⟩ := by
 apply ByteArray.ext
 simp
def byt (l : List UInt8) : ByteArray := ⟨l.toArray⟩
theorem byt_app (a b : List UInt8) : byt a ++ byt b = byt (a ++ b) := numS_app a b
def kindL (k : Int) : List UInt8 := if k = 1 then [116, 105, 99, 107] else if k = 2 then [105, 110, 118, 111, 107, 101] else if k = 3 then [112, 111, 105, 110, 116] else if k = 4 then [97, 99, 116] else [114, 101, 116, 117, 114, 110]
def opL (o : Int) : List UInt8 := if o = 1 then [111, 112, 101, 110] else if o = 2 then [116, 111, 117, 99, 104] else if o = 3 then [99, 108, 111, 115, 101] else if o = 4 then [102, 97, 105, 108] else if o = 5 then [115, 117, 99, 99, 101, 115, 115] else if o = 6 then [97, 100, 118, 97, 110, 99, 101] else if o = 7 then [105, 100, 108, 101] else [114, 101, 116, 114, 121]
theorem kindL_word (k : Int) : isWord (kindL k) := by
 unfold kindL
 repeat' split
 all_goals exact word_of_all (by decide)
theorem opL_word (k : Int) : isWord (opL k) := by
 unfold opL
 repeat' split
 all_goals exact word_of_all (by decide)
def restL (k wk op cn t dr er : Int) : List (List UInt8) :=
 (if k = 1 then [] else [Lib.itoa wk]) ++ (if k = 1 then [] else [opL op]) ++ (if lkC k op = true then [Lib.itoa cn] else []) ++ (if lkT k er = true then [Lib.itoa t] else []) ++ (if lkD k op = true then [Lib.itoa dr] else []) ++ (if lkE k op = true then [Lib.itoa er] else [])
theorem restL_word (k wk op cn t dr er : Int) : ∀ x ∈ restL k wk op cn t dr er, isWord x := by
 intro x hx
 unfold restL at hx
 simp only [List.mem_append] at hx
 rcases hx with ((((h | h) | h) | h) | h) | h
 ·rw [mem_if2 h]; exact itoa_word _
 ·rw [mem_if2 h]; exact opL_word _
 ·rw [mem_if h]; exact itoa_word _
 ·rw [mem_if h]; exact itoa_word _
 ·rw [mem_if h]; exact itoa_word _
 ·rw [mem_if h]; exact itoa_word _
def textL (k wk op cn t dr er : Int) : List UInt8 := kindL k ++ tailW (restL k wk op cn t dr er)
theorem textL_fine (k wk op cn t dr er : Int) : Fine (textL k wk op cn t dr er) :=
 fine_text (fine_word (kindL_word k)) (kindL_word k).1 (fun x hx => restL_word _ _ _ _ _ _ _ x hx)
theorem lr_cases {k wk op cn t dr er : Int} (h : lrB k wk op cn t dr er = true) : lkOk k op = true ∧ (lkW k = true ∨ wk = 0) ∧ (lkC k op = true ∨ cn = 0) ∧ (lkT k er = true ∨ t = 0) ∧ (lkD k op = true ∨ dr = 0) ∧ (lkE k op = true ∨ er = 0) := by
 unfold lrB at h
 simp only [Bool.and_eq_true, Bool.or_eq_true, beq_iff_eq] at h
 exact ⟨h.1, h.2.2.2.2.2.1, h.2.2.2.2.2.2.1, h.2.2.2.2.2.2.2.1, h.2.2.2.2.2.2.2.2.1, h.2.2.2.2.2.2.2.2.2⟩
theorem ok_cases {k op : Int} (h : lkOk k op = true) : (k = 1 ∧ op = 0) ∨ (k = 2 ∧ 1 ≤ op ∧ op ≤ 6) ∨ (k = 3 ∧ 1 ≤ op ∧ op ≤ 5) ∨ (k = 4 ∧ 7 ≤ op ∧ op ≤ 8) ∨ (k = 5 ∧ 1 ≤ op ∧ op ≤ 6) := by
 unfold lkOk ownB at h
 simp only [Bool.and_eq_true, Bool.or_eq_true, beq_iff_eq, decide_eq_true_eq] at h
 omega
theorem kindL_inj {k k' : Int} (h0 : 1 ≤ k) (h1 : k ≤ 5) (h0' : 1 ≤ k') (h1' : k' ≤ 5) (h : kindL k = kindL k') : k = k' := by
 obtain rfl | rfl | rfl | rfl | rfl : k = 1 ∨ k = 2 ∨ k = 3 ∨ k = 4 ∨ k = 5 := by omega
 all_goals
  obtain rfl | rfl | rfl | rfl | rfl : k' = 1 ∨ k' = 2 ∨ k' = 3 ∨ k' = 4 ∨ k' = 5 := by omega
  all_goals first | rfl | exact absurd h (by decide)
theorem opL_inj {k k' : Int} (h0 : 1 ≤ k) (h1 : k ≤ 8) (h0' : 1 ≤ k') (h1' : k' ≤ 8) (h : opL k = opL k') : k = k' := by
 obtain rfl | rfl | rfl | rfl | rfl | rfl | rfl | rfl : k = 1 ∨ k = 2 ∨ k = 3 ∨ k = 4 ∨ k = 5 ∨ k = 6 ∨ k = 7 ∨ k = 8 := by omega
 all_goals
  obtain rfl | rfl | rfl | rfl | rfl | rfl | rfl | rfl : k' = 1 ∨ k' = 2 ∨ k' = 3 ∨ k' = 4 ∨ k' = 5 ∨ k' = 6 ∨ k' = 7 ∨ k' = 8 := by omega
  all_goals first | rfl | exact absurd h (by decide)
theorem itoa_iff {a b : Int} : Lib.itoa a = Lib.itoa b ↔ a = b := ⟨itoa_inj, fun h => by rw [h]⟩
theorem textL_inj {k wk op cn t dr er k' wk' op' cn' t' dr' er' : Int} (h : lrB k wk op cn t dr er = true) (h' : lrB k' wk' op' cn' t' dr' er' = true) (e : textL k wk op cn t dr er = textL k' wk' op' cn' t' dr' er') :
  k = k' ∧ wk = wk' ∧ op = op' ∧ cn = cn' ∧ t = t' ∧ dr = dr' ∧ er = er' := by
 obtain ⟨e1, e2⟩ := text_inj (kindL_word k) (kindL_word k') (fun x hx => restL_word _ _ _ _ _ _ _ x hx) (fun x hx => restL_word _ _ _ _ _ _ _ x hx) e
 clear e
 obtain ⟨ho, hw, hc, ht, hd, he⟩ := lr_cases h
 obtain ⟨ho', hw', hc', ht', hd', he'⟩ := lr_cases h'
 clear h h'
 have c := ok_cases ho
 have c' := ok_cases ho'
 obtain rfl : k = k' := kindL_inj (by omega) (by omega) (by omega) (by omega) e1
 clear e1 ho ho'
 by_cases k1 : k = 1
 ·subst k1
  obtain rfl : op = 0 := by omega
  obtain rfl : op' = 0 := by omega
  simp [lkW, lkC, lkT, lkD, lkE, restL, itoa_iff] at hw hc ht hd he hw' hc' ht' hd' he' e2
  omega
 have hop : op = op' ∧ wk = wk' ∧ (if lkC k op = true then [Lib.itoa cn] else []) ++ (if lkT k er = true then [Lib.itoa t] else []) ++ (if lkD k op = true then [Lib.itoa dr] else []) ++ (if lkE k op = true then [Lib.itoa er] else []) = (if lkC k op' = true then [Lib.itoa cn'] else []) ++ (if lkT k er' = true then [Lib.itoa t'] else []) ++ (if lkD k op' = true then [Lib.itoa dr'] else []) ++ (if lkE k op' = true then [Lib.itoa er'] else []) := by
  unfold restL at e2
  rw [if_neg k1, if_neg k1, if_neg k1, if_neg k1] at e2
  simp only [List.append_assoc, List.cons_append, List.nil_append] at e2 ⊢
  obtain ⟨a1, a2⟩ := List.cons.inj e2
  obtain ⟨a3, a4⟩ := List.cons.inj a2
  exact ⟨opL_inj (by omega) (by omega) (by omega) (by omega) a3, itoa_inj a1, a4⟩
 obtain ⟨rfl, rfl, e3⟩ := hop
 clear e2 c'
 refine ⟨rfl, rfl, rfl, ?_⟩
 generalize lkC k op = p at *
 generalize lkD k op = q at *
 generalize lkE k op = r at *
 generalize hT : lkT k er = s at *
 generalize hT' : lkT k er' = s' at *
 cases p <;> cases q <;> cases r <;> cases s <;> cases s' <;> simp [itoa_iff] at e3 hc hc' ht ht' hd hd' he he' ⊢ <;> (try omega)
 all_goals
  (simp_all)
end Go.Proofs.YthljanmfanppdaaDoor.Lw
end
section
/-
 DERIVED: THE SHELF's CONTRACTS AT THIS DUMP, IN PLAIN WORDS (tools/lay-plain.mjs out of 'TrydShelf.lean', which tools/lay-shelf.mjs wrote): THE SAME DECLARATIONS UNDER THE SAME NAMES: 'import', 'namespace', 'open', 'def', 'theorem' AND NOTHING ELSE: no command of the shelf's: FOR A HAND-IN. Each laying: the table of numbers ('.._ren') and one theorem, a field a fact of the dump's own or the kernel's comparison; each contract: ONE APPLICATION.
-/
namespace Go.Proofs
open Go.Shelf
def Tryd.laysM246_ren : Go.Shelf.Ren := ⟨fun | 246 => 26 | 283 => 30 | 284 => 31 | 285 => 32 | 286 => 33 | 129 => 36 | 317 => 35 | 318 => 37 | 319 => 38 | 320 => 39 | 337 => 40 | 338 => 41 | n => n, fun | 2 => 2 | 3 => 3 | 9 => 9 | 4 => 4 | 171 => 74 | 0 => 0 | 53 => 75 | 37 => 78 | 5 => 5 | 173 => 79 | 212 => 84 | 51 => 85 | 20 => 20 | 213 => 86 | 46 => 82 | 232 => 89 | 233 => 90 | n => n, fun | 17 => 0 | 18 => 1 | 19 => 2 | n => n⟩
def Tryd.laysM243_ren : Go.Shelf.Ren := ⟨fun | 243 => 22 | 246 => 26 | 283 => 30 | 284 => 31 | 285 => 32 | 286 => 33 | 129 => 36 | 317 => 35 | 318 => 37 | 319 => 38 | 320 => 39 | 337 => 40 | 338 => 41 | n => n, fun | 3 => 3 | 9 => 9 | 2 => 2 | 4 => 4 | 171 => 74 | 0 => 0 | 53 => 75 | 37 => 78 | 5 => 5 | 173 => 79 | 212 => 84 | 51 => 85 | 20 => 20 | 213 => 86 | 46 => 82 | 232 => 89 | 233 => 90 | n => n, fun | 17 => 0 | 18 => 1 | 19 => 2 | n => n⟩
def Tryd.laysM171_ren : Go.Shelf.Ren := ⟨fun | 171 => 14 | 243 => 22 | 246 => 26 | 283 => 30 | 284 => 31 | 285 => 32 | 286 => 33 | 129 => 36 | 317 => 35 | 318 => 37 | 319 => 38 | 320 => 39 | 337 => 40 | 338 => 41 | n => n, fun | 3 => 3 | 9 => 9 | 2 => 2 | 4 => 4 | 171 => 74 | 0 => 0 | 53 => 75 | 37 => 78 | 5 => 5 | 173 => 79 | 212 => 84 | 51 => 85 | 20 => 20 | 213 => 86 | 46 => 82 | 232 => 89 | 233 => 90 | n => n, fun | 17 => 0 | 18 => 1 | 19 => 2 | n => n⟩
theorem Tryd.laysM171 : Go.Proofs.LaysM.n171 Tryd.prog Tryd.laysM171_ren := {
 mixed := by kernel_rfl
 f129 := Tryd.func36.trans (congrArg some (by kernel_rfl))
 f171 := Tryd.func14.trans (congrArg some (by kernel_rfl))
 f243 := Tryd.func22.trans (congrArg some (by kernel_rfl))
 f246 := Tryd.func26.trans (congrArg some (by kernel_rfl))
 f283 := Tryd.func30.trans (congrArg some (by kernel_rfl))
 f284 := Tryd.func31.trans (congrArg some (by kernel_rfl))
 f285 := Tryd.func32.trans (congrArg some (by kernel_rfl))
 f286 := Tryd.func33.trans (congrArg some (by kernel_rfl))
 f317 := Tryd.func35.trans (congrArg some (by kernel_rfl))
 f318 := Tryd.func37.trans (congrArg some (by kernel_rfl))
 f319 := Tryd.func38.trans (congrArg some (by kernel_rfl))
 f320 := Tryd.func39.trans (congrArg some (by kernel_rfl))
 f337 := Tryd.func40.trans (congrArg some (by kernel_rfl))
 f338 := Tryd.func41.trans (congrArg some (by kernel_rfl))
 t0 := Tryd.underlying0
 a0 := Tryd.isAgg0
 z0 := Tryd.sizeOf0
 v0 := Tryd.zeroValue0
 t2 := Tryd.underlying2
 a2 := Tryd.isAgg2
 z2 := Tryd.sizeOf2
 v2 := Tryd.zeroValue2
 t3 := Tryd.underlying3
 a3 := Tryd.isAgg3
 z3 := Tryd.sizeOf3
 v3 := Tryd.zeroValue3
 t4 := Tryd.underlying4
 a4 := Tryd.isAgg4
 z4 := Tryd.sizeOf4
 v4 := Tryd.zeroValue4
 t5 := Tryd.underlying5
 a5 := Tryd.isAgg5
 z5 := Tryd.sizeOf5
 v5 := Tryd.zeroValue5
 t9 := Tryd.underlying9
 a9 := Tryd.isAgg9
 z9 := Tryd.sizeOf9
 v9 := Tryd.zeroValue9
 t20 := Tryd.underlying20
 a20 := Tryd.isAgg20
 z20 := Tryd.sizeOf20
 v20 := Tryd.zeroValue20
 t37 := Tryd.underlying78
 a37 := Tryd.isAgg78
 z37 := Tryd.sizeOf78
 v37 := Tryd.zeroValue78
 t46 := Tryd.underlying82
 a46 := Tryd.isAgg82
 z46 := Tryd.sizeOf82
 v46 := Tryd.zeroValue82
 t51 := Tryd.underlying85
 a51 := Tryd.isAgg85
 z51 := Tryd.sizeOf85
 v51 := Tryd.zeroValue85
 t53 := Tryd.underlying75
 a53 := Tryd.isAgg75
 z53 := Tryd.sizeOf75
 v53 := Tryd.zeroValue75
 t171 := Tryd.underlying74
 a171 := Tryd.isAgg74
 z171 := Tryd.sizeOf74
 v171 := Tryd.zeroValue74
 t173 := Tryd.underlying79
 a173 := Tryd.isAgg79
 z173 := Tryd.sizeOf79
 v173 := Tryd.zeroValue79
 t212 := Tryd.underlying84
 a212 := Tryd.isAgg84
 z212 := Tryd.sizeOf84
 v212 := Tryd.zeroValue84
 t213 := Tryd.underlying86
 a213 := Tryd.isAgg86
 z213 := Tryd.sizeOf86
 t232 := Tryd.underlying89
 a232 := Tryd.isAgg89
 z232 := Tryd.sizeOf89
 v232 := Tryd.zeroValue89
 t233 := Tryd.underlying90
 a233 := Tryd.isAgg90
 z233 := Tryd.sizeOf90
 v233 := Tryd.zeroValue90
 g17 := by kernel_rfl
 g18 := by kernel_rfl
 g19 := by kernel_rfl
 i0 := by kernel_rfl
 i2 := by kernel_rfl
 i3 := by kernel_rfl
 i4 := by kernel_rfl
 i5 := by kernel_rfl
 i9 := by kernel_rfl
 i20 := by kernel_rfl
 i37 := by kernel_rfl
 i46 := by kernel_rfl
 i51 := by kernel_rfl
 i53 := by kernel_rfl
 i171 := by kernel_rfl
 i173 := by kernel_rfl
 i212 := by kernel_rfl
 i232 := by kernel_rfl
 i233 := by kernel_rfl
 m17 := by kernel_rfl
 m18 := by kernel_rfl
 m19 := by kernel_rfl }
open Go.RowKit Go.Sort Go.Lib in
theorem Tryd.strconv_Itoa (n : Int) (h0 : -9223372036854775808 ≤ n) (h1 : n ≤ 9223372036854775807) (w : World) (htab : Lib.TabIs Tryd.prog w "internal/strconv.uint64pow10" .u64 Lib.pow10Tab) :
  Calls Tryd.prog 14 #[.int .i64 n] w fun e w' => e = .returned (.string ⟨(Lib.itoa n).toArray⟩) ∧ ∃ k os, w' = grow (w.drewN k) os := Any.strconv_Itoa Tryd.laysM171 n h0 h1 w htab
end Go.Proofs
end
section
namespace Go.Proofs.YthljanmfanppdaaDoor.Lw
open Go.RowKit
set_option linter.unusedVariables false
def Tab (w : World) : Prop := Lib.TabIs Tryd.prog w "internal/strconv.uint64pow10" .u64 Lib.pow10Tab
theorem Tab.below {w w1 : World} (h : Tab w) (hb : Below w.heap.size w w1) : Tab w1 := by
 unfold Tab Lib.TabIs World.var? at *
 cases hg : Tryd.prog.globalNamed "internal/strconv.uint64pow10" with
 | none => rw [hg] at h; simp at h
 | some g =>
  simp only [hg, Option.bind_some] at h ⊢
  have hlt : g < w.heap.size := by
   rcases Nat.lt_or_ge g w.heap.size with h' | h'
   ·exact h'
   ·rw [Array.getElem?_eq_none h'] at h; simp at h
  rw [hb.block g hlt]
  exact h
theorem itoa_any (n : Int) (h0 : -9223372036854775808 ≤ n) (h1 : n ≤ 9223372036854775807) (w : World) (ht : Tab w) :
  Calls Tryd.prog 14 #[.int .i64 n] w fun e w' => e = .returned (.string (numS n)) ∧ Below w.heap.size w w' := by
 refine (Tryd.strconv_Itoa n h0 h1 w ht).mono ?_
 rintro e w' ⟨rfl, k, os, rfl⟩
 exact ⟨rfl, Lib.below_grow _ w (Nat.le_refl _) k os⟩
theorem gPow : Tryd.prog.globalNamed "internal/strconv.uint64pow10" = some 0 := by kernel_rfl
theorem gPowT : (Tryd.prog.globals[0]?).map (·.type) = some 84 := by kernel_rfl
theorem tab_of_laid {W : World} (h : laidMet Tryd.prog [("math/bits.deBruijn32tab", Rows.laid_math_bits_deBruijn32tab), ("math/bits.deBruijn64tab", Rows.laid_math_bits_deBruijn64tab), ("internal/strconv.uint64pow10", Rows.laid_internal_strconv_uint64pow10)] W) : Tab W := by
 obtain ⟨ps, ⟨_, _, _, _, _, _, _, _, _, _, ⟨_, _, _, _, _, _, _, _, _, _, ⟨g', t', cs, fuel, p, q, hg', ht', hvar, hd, _, _⟩, _⟩, _⟩, _⟩ := h
 obtain rfl := Option.some.inj (gPow.symm.trans hg')
 obtain rfl := Option.some.inj (gPowT.symm.trans ht')
 unfold Tab Lib.TabIs
 have hd' : DataW.trod (fun _ => ()) Tryd.prog W _ _ _ fuel 84 cs.toList = some (Lib.tabData .u64 Lib.pow10Tab, p) := hd
 rw [hvar, ← Lib.cells_of_tab Tryd.underlying84 Tryd.underlying75 (by kernel_rfl) (by kernel_rfl) hd']
end Go.Proofs.YthljanmfanppdaaDoor.Lw
end
section
namespace Go.Proofs.YthljanmfanppdaaDoor.KLw
open Go.RowKit Go.Proofs.YthljanmfanppdaaDoorW.PrintWords Go.Proofs.YthljanmfanppdaaDoorW.PrintLast Go.Proofs.YthljanmfanppdaaDoorW.PrintMore
attribute [local go_sem] max2_int min2_int max_two min_two max_three min_three max_four min_four   -- for this text's walks alone
set_option linter.unusedVariables false
set_option linter.unusedSimpArgs false
def errW : Option Int → Value
 | none => .nilIface
 | some c => .iface 0 (.int .i64 c)
theorem errW_none : errW none = .nilIface := rfl
theorem errW_some (c : Int) : errW (some c) = .iface 0 (.int .i64 c) := rfl
end Go.Proofs.YthljanmfanppdaaDoor.KLw
end
section
set_option maxHeartbeats 8000000
set_option maxRecDepth 100000
namespace Go.Proofs.YthljanmfanppdaaDoor.KLw
open Go.RowKit Go.Proofs.YthljanmfanppdaaDoorW.PrintWords Go.Proofs.YthljanmfanppdaaDoorW.PrintLast Go.Proofs.YthljanmfanppdaaDoorW.PrintMore
attribute [local go_sem] max2_int min2_int max_two min_two max_three min_three max_four min_four   -- for this text's walks alone
set_option linter.unusedVariables false
set_option linter.unusedSimpArgs false
def link_shapeOf.f (a0_0 : Int) (a0_1 : Int) (a0_2 : Int) (a0_3 : Int) (a0_4 : Int) (a0_5 : Int) (a0_6 : Int) : Option (Bool × Bool × Bool × Bool × Bool × Bool) := some (Go.Proofs.YthljanmfanppdaaDoor.Bk.lkW a0_0, Go.Proofs.YthljanmfanppdaaDoor.Bk.lkC a0_0 a0_2, Go.Proofs.YthljanmfanppdaaDoor.Bk.lkT a0_0 a0_6, Go.Proofs.YthljanmfanppdaaDoor.Bk.lkD a0_0 a0_2, Go.Proofs.YthljanmfanppdaaDoor.Bk.lkE a0_0 a0_2, Go.Proofs.YthljanmfanppdaaDoor.Bk.lkOk a0_0 a0_2)
theorem link_shapeOf.calls (a0_0 : Int) (a0_1 : Int) (a0_2 : Int) (a0_3 : Int) (a0_4 : Int) (a0_5 : Int) (a0_6 : Int) (r1 : Bool) (r2 : Bool) (r3 : Bool) (r4 : Bool) (r5 : Bool) (r6 : Bool) (w : World) (h : link_shapeOf.f a0_0 a0_1 a0_2 a0_3 a0_4 a0_5 a0_6 = some (r1, r2, r3, r4, r5, r6)) :
  Calls Tryd.prog 15 #[.agg #[.int .i64 a0_0, .int .i64 a0_1, .int .i64 a0_2, .int .i64 a0_3, .int .i64 a0_4, .int .i64 a0_5, .int .i64 a0_6]] w fun e w' => e = .returned (.tuple #[.agg #[.bool r1, .bool r2, .bool r3, .bool r4, .bool r5], .bool r6]) ∧ Below w.heap.size w w' :=
 Go.Proofs.YthljanmfanppdaaDoor.KLk.link_shapeOf.calls 1 a0_0 a0_1 a0_2 a0_3 a0_4 a0_5 a0_6 r1 r2 r3 r4 r5 r6 w ((Go.Proofs.YthljanmfanppdaaDoor.Bk.shape_is 0 a0_0 a0_1 a0_2 a0_3 a0_4 a0_5 a0_6).trans h)
def link_Right.f (a0_0 : Int) (a0_1 : Int) (a0_2 : Int) (a0_3 : Int) (a0_4 : Int) (a0_5 : Int) (a0_6 : Int) : Option Bool := some (Go.Proofs.YthljanmfanppdaaDoor.Bk.lrB a0_0 a0_1 a0_2 a0_3 a0_4 a0_5 a0_6)
theorem link_Right.calls (a0_0 : Int) (a0_1 : Int) (a0_2 : Int) (a0_3 : Int) (a0_4 : Int) (a0_5 : Int) (a0_6 : Int) (r1 : Bool) (w : World) (h : link_Right.f a0_0 a0_1 a0_2 a0_3 a0_4 a0_5 a0_6 = some r1) :
  Calls Tryd.prog 13 #[.agg #[.int .i64 a0_0, .int .i64 a0_1, .int .i64 a0_2, .int .i64 a0_3, .int .i64 a0_4, .int .i64 a0_5, .int .i64 a0_6]] w fun e w' => e = .returned (.bool r1) ∧ Below w.heap.size w w' := by
 obtain rfl := Option.some.inj h
 exact Go.Proofs.YthljanmfanppdaaDoor.Bk.right_calls a0_0 a0_1 a0_2 a0_3 a0_4 a0_5 a0_6 w
def knelllaw24_speaks.f : Option Bool := some true
theorem knelllaw24_speaks.calls (r1 : Bool) (w : World) (h : knelllaw24_speaks.f = some r1) :
  Calls Tryd.prog 4 #[] w fun e w' => e = .returned (.bool r1) ∧ Below w.heap.size w w' := by
 obtain rfl := Option.some.inj h
 exact Go.Proofs.YthljanmfanppdaaDoor.Bk.speaks_any w
def knellref24_kind.j0 : Nat → Int → Bool → Int → Int → Int → Int → Int → Int → Int → Option (Bool)
 | 0, _, _, _, _, _, _, _, _, _ => none
 | k + 1, x4, x10, x102000, x102001, x102002, x102003, x102004, x102005, x102006 => if x10 = true then (if x102002 ≥ 1 then (some (decide (x102002 ≤ 6))) else (some false)) else (if x4 = 3 then (if x102002 ≥ 1 then (some (decide (x102002 ≤ 5))) else (some false)) else (if x4 = 4 then (if x102002 = 7 then (some true) else (some (x102002 == 8))) else (some false)))
def knellref24_kind.f (k : Nat) (a0_0 : Int) (a0_1 : Int) (a0_2 : Int) (a0_3 : Int) (a0_4 : Int) (a0_5 : Int) (a0_6 : Int) : Option (Bool) := if a0_0 = 1 then (some (a0_2 == 0)) else (if a0_0 = 2 then (knellref24_kind.j0 k a0_0 (a0_0 == 2) a0_0 a0_1 a0_2 a0_3 a0_4 a0_5 a0_6) else (knellref24_kind.j0 k a0_0 (a0_0 == 5) a0_0 a0_1 a0_2 a0_3 a0_4 a0_5 a0_6))
theorem knellref24_kind.calls (k : Nat) (a0_0 : Int) (a0_1 : Int) (a0_2 : Int) (a0_3 : Int) (a0_4 : Int) (a0_5 : Int) (a0_6 : Int) (r : Bool) (w : World) (h : knellref24_kind.f k a0_0 a0_1 a0_2 a0_3 a0_4 a0_5 a0_6 = some r) :
  Calls Tryd.prog 11 #[.agg #[.int .i64 a0_0, .int .i64 a0_1, .int .i64 a0_2, .int .i64 a0_3, .int .i64 a0_4, .int .i64 a0_5, .int .i64 a0_6]] w fun e w' => e = .returned (.bool r) ∧ Below w.heap.size w w' := by
 have hu23 := Tryd.underlying23
 have HB := Aside0.mk (Below.refl w.heap.size w)
 have H : (if a0_0 = 1 then (some (a0_2 == 0)) else (if a0_0 = 2 then (knellref24_kind.j0 k a0_0 (a0_0 == 2) a0_0 a0_1 a0_2 a0_3 a0_4 a0_5 a0_6) else (knellref24_kind.j0 k a0_0 (a0_0 == 5) a0_0 a0_1 a0_2 a0_3 a0_4 a0_5 a0_6))) = some r := h
 clear h
 by_cases c2 : a0_0 = 1
 ·rw [if_pos c2] at H
  have c2b0 : (a0_0 == 1) = true := beq_iff_eq.mpr c2
  have c2b1 : (a0_0 != 1) = false := bne_eq_false_iff_eq.mpr c2
  clear c2
  obtain rfl := Option.some.inj H
  go_enter Tryd.func11, Tryd.ntmps11
  go_wp2_with (first | ((with_reducible refine gate_dst (N := 1) rfl ?_); refine box_event ?hg (N := 1) ?hd (cs := #[.int .i64 a0_0, .int .i64 a0_1, .int .i64 a0_2, .int .i64 a0_3, .int .i64 a0_4, .int .i64 a0_5, .int .i64 a0_6]) (t := 23) ?hr ?_; (case hd => rfl); (case hg => rfl); (case hr => first | (go_simp; done) | (go_simp; rfl)); intro gb101 hg w3 hbox hb; have n0_ := Aside0.mk (below_step (by repeat (first | (with_reducible first | exact HB.out | apply below_alloc | apply pw_below_drewN | apply below_drew1) | exact HB.out)) hb); have n1_ := Aside0.mk (hbox); have n2_ := Aside0.mk ((by rw [hg]; exact (below_size (by repeat (first | (with_reducible first | exact HB.out | apply below_alloc | apply pw_below_drewN | apply below_drew1) | exact HB.out))) : w.heap.size ≤ gb101)); have n3_ := Aside0.mk ((by rw [hg]; exact (below_size (by repeat (first | (with_reducible first | exact HB.out | apply below_alloc | apply pw_below_drewN | apply below_drew1) | exact HB.out))) : w.heap.size ≤ gb101)); clear HB; have HB := n0_; have BK101 := n1_; have GW101 := n2_; have GE101 := n3_; clear n0_ n1_ n2_ n3_; clear hb hbox hg; have hcz4_0 : w3.cell? ⟨gb101, 0, none⟩ = some (.int .i64 a0_0) := (blk_cell BK101.out 0).trans rfl; have hcz4_1 : w3.cell? ⟨gb101, 1, none⟩ = some (.int .i64 a0_1) := (blk_cell BK101.out 1).trans rfl; have hcz4_2 : w3.cell? ⟨gb101, 2, none⟩ = some (.int .i64 a0_2) := (blk_cell BK101.out 2).trans rfl; have hcz4_3 : w3.cell? ⟨gb101, 3, none⟩ = some (.int .i64 a0_3) := (blk_cell BK101.out 3).trans rfl; have hcz4_4 : w3.cell? ⟨gb101, 4, none⟩ = some (.int .i64 a0_4) := (blk_cell BK101.out 4).trans rfl; have hcz4_5 : w3.cell? ⟨gb101, 5, none⟩ = some (.int .i64 a0_5) := (blk_cell BK101.out 5).trans rfl; have hcz4_6 : w3.cell? ⟨gb101, 6, none⟩ = some (.int .i64 a0_6) := (blk_cell BK101.out 6).trans rfl; have hfz4_0 := blk_frozen BK101.out 0; have hfz4_1 := blk_frozen BK101.out 1; have hfz4_2 := blk_frozen BK101.out 2; have hfz4_3 := blk_frozen BK101.out 3; have hfz4_4 := blk_frozen BK101.out 4; have hfz4_5 := blk_frozen BK101.out 5; have hfz4_6 := blk_frozen BK101.out 6))
  go_ret
  exact ⟨by first | rfl | (simp [errW_none, errW_some] <;> rfl) | (simp [*, errW_none, errW_some] <;> rfl), by repeat (first | (with_reducible first | exact HB.out | apply below_alloc | apply pw_below_drewN | apply below_drew1 | refine below_set ?_ GE101.out) | exact HB.out)⟩
 ·rw [if_neg c2] at H
  have c2b0 : (a0_0 == 1) = false := beq_eq_false_iff_ne.mpr c2
  have c2b1 : (a0_0 != 1) = true := bne_iff_ne.mpr c2
  have HC5 := Aside0.mk H
  clear H
  go_enter Tryd.func11, Tryd.ntmps11
  go_upto_if 10 with (first | ((with_reducible refine gate_dst (N := 1) rfl ?_); refine box_event ?hg (N := 1) ?hd (cs := #[.int .i64 a0_0, .int .i64 a0_1, .int .i64 a0_2, .int .i64 a0_3, .int .i64 a0_4, .int .i64 a0_5, .int .i64 a0_6]) (t := 23) ?hr ?_; (case hd => rfl); (case hg => rfl); (case hr => first | (go_simp; done) | (go_simp; rfl)); intro gb101 hg w6 hbox hb; have n0_ := Aside0.mk (below_step (by repeat (first | (with_reducible first | exact HB.out | apply below_alloc | apply pw_below_drewN | apply below_drew1) | exact HB.out)) hb); have n1_ := Aside0.mk (hbox); have n2_ := Aside0.mk ((by rw [hg]; exact (below_size (by repeat (first | (with_reducible first | exact HB.out | apply below_alloc | apply pw_below_drewN | apply below_drew1) | exact HB.out))) : w.heap.size ≤ gb101)); have n3_ := Aside0.mk ((by rw [hg]; exact (below_size (by repeat (first | (with_reducible first | exact HB.out | apply below_alloc | apply pw_below_drewN | apply below_drew1) | exact HB.out))) : w.heap.size ≤ gb101)); clear HB; have HB := n0_; have BK101 := n1_; have GW101 := n2_; have GE101 := n3_; clear n0_ n1_ n2_ n3_; clear hb hbox hg; have hcz7_0 : w6.cell? ⟨gb101, 0, none⟩ = some (.int .i64 a0_0) := (blk_cell BK101.out 0).trans rfl; have hcz7_1 : w6.cell? ⟨gb101, 1, none⟩ = some (.int .i64 a0_1) := (blk_cell BK101.out 1).trans rfl; have hcz7_2 : w6.cell? ⟨gb101, 2, none⟩ = some (.int .i64 a0_2) := (blk_cell BK101.out 2).trans rfl; have hcz7_3 : w6.cell? ⟨gb101, 3, none⟩ = some (.int .i64 a0_3) := (blk_cell BK101.out 3).trans rfl; have hcz7_4 : w6.cell? ⟨gb101, 4, none⟩ = some (.int .i64 a0_4) := (blk_cell BK101.out 4).trans rfl; have hcz7_5 : w6.cell? ⟨gb101, 5, none⟩ = some (.int .i64 a0_5) := (blk_cell BK101.out 5).trans rfl; have hcz7_6 : w6.cell? ⟨gb101, 6, none⟩ = some (.int .i64 a0_6) := (blk_cell BK101.out 6).trans rfl; have hfz7_0 := blk_frozen BK101.out 0; have hfz7_1 := blk_frozen BK101.out 1; have hfz7_2 := blk_frozen BK101.out 2; have hfz7_3 := blk_frozen BK101.out 3; have hfz7_4 := blk_frozen BK101.out 4; have hfz7_5 := blk_frozen BK101.out 5; have hfz7_6 := blk_frozen BK101.out 6))
  (try simp only [Act.put, sQ0, sQ1, sQ2])
  go_cut [10] (fun v10 wc => ∃ (kq : Nat) (x10_4 : Bool), v10 = .bool x10_4 ∧ Aside0 (knellref24_kind.j0 kq a0_0 x10_4 a0_0 a0_1 a0_2 a0_3 a0_4 a0_5 a0_6 = some r) ∧ Aside0 (kq ≤ k) ∧ Aside0 (wc.heap[gb101]? = some (.cells #[.int .i64 a0_0, .int .i64 a0_1, .int .i64 a0_2, .int .i64 a0_3, .int .i64 a0_4, .int .i64 a0_5, .int .i64 a0_6] 23 (0, 0))) ∧ Aside0 (Below w.heap.size w wc))
  case first =>
   have H := HC5.out
   clear HC5
   by_cases c8 : a0_0 = 2
   ·rw [if_pos c8] at H
    have c8b0 : (a0_0 == 2) = true := beq_iff_eq.mpr c8
    have c8b1 : (a0_0 != 2) = false := bne_eq_false_iff_eq.mpr c8
    clear c8
    (first | rw [c8b0] | (simp only [i64_w, i32_w]; rw [c8b0]) | skip)
    have H' := Aside0.mk H
    clear H
    go_wp2
    go_meet
    case rel => exact ⟨_, ((a0_0 == 2)), (by first | rfl | (simp; done) | (simp [*]; done)), H', ⟨by first | omega | exact Nat.le_refl _⟩, ⟨by (with_reducible repeat (first | refine blk_drewN ?_ _ | refine blk_drew ?_ | refine blk_alloc ?_ _)); exact BK101.out⟩, ⟨by repeat (first | (with_reducible first | exact HB.out | apply below_alloc | apply pw_below_drewN | apply below_drew1 | refine below_set ?_ GE101.out) | exact HB.out)⟩⟩
   ·rw [if_neg c8] at H
    have c8b0 : (a0_0 == 2) = false := beq_eq_false_iff_ne.mpr c8
    have c8b1 : (a0_0 != 2) = true := bne_iff_ne.mpr c8
    (first | rw [c8b0] | (simp only [i64_w, i32_w]; rw [c8b0]) | skip)
    have H' := Aside0.mk H
    clear H
    go_wp2
    go_meet
    case rel => exact ⟨_, ((a0_0 == 5)), (by first | rfl | (simp; done) | (simp [*]; done)), H', ⟨by first | omega | exact Nat.le_refl _⟩, ⟨by (with_reducible repeat (first | refine blk_drewN ?_ _ | refine blk_drew ?_ | refine blk_alloc ?_ _)); exact BK101.out⟩, ⟨by repeat (first | (with_reducible first | exact HB.out | apply below_alloc | apply pw_below_drewN | apply below_drew1 | refine below_set ?_ GE101.out) | exact HB.out)⟩⟩
  case rest =>
   clear HC5
   try clear c1
   try clear c2
   try clear c2b0
   try clear c2b1
   try clear p2
   try clear c8
   try clear c8b0
   try clear c8b1
   try clear hcz4_0
   try clear hcz4_1
   try clear hcz4_2
   try clear hcz4_3
   try clear hcz4_4
   try clear hcz4_5
   try clear hcz4_6
   try clear hcz7_0
   try clear hcz7_1
   try clear hcz7_2
   try clear hcz7_3
   try clear hcz7_4
   try clear hcz7_5
   try clear hcz7_6
   try clear hfz4_0
   try clear hfz4_1
   try clear hfz4_2
   try clear hfz4_3
   try clear hfz4_4
   try clear hfz4_5
   try clear hfz4_6
   try clear hfz7_0
   try clear hfz7_1
   try clear hfz7_2
   try clear hfz7_3
   try clear hfz7_4
   try clear hfz7_5
   try clear hfz7_6
   obtain ⟨kq, x10_4, rfl, HA, HJ4, BK101, HB⟩ := hcut
   cases kq with
   | zero => exact absurd HA.out (by simp [knellref24_kind.j0])
   | succ kj4 =>
    have H := HA.out
    clear HA
    simp only [knellref24_kind.j0] at H
    by_cases c9 : x10_4 = true
    ·subst c9
     have H1 : (if a0_2 ≥ 1 then (some (decide (a0_2 ≤ 6))) else (some false)) = some r := by rw [if_pos rfl] at H; exact H
     clear H
     have H := H1
     clear H1
     by_cases c10 : a0_2 ≥ 1
     ·rw [if_pos c10] at H
      have c10b0 : decide (1 ≤ a0_2) = true := decide_eq_true c10
      clear c10
      obtain rfl := Option.some.inj H
      have hcz11_0 : wc.cell? ⟨gb101, 0, none⟩ = some (.int .i64 a0_0) := (blk_cell BK101.out 0).trans rfl
      have hcz11_1 : wc.cell? ⟨gb101, 1, none⟩ = some (.int .i64 a0_1) := (blk_cell BK101.out 1).trans rfl
      have hcz11_2 : wc.cell? ⟨gb101, 2, none⟩ = some (.int .i64 a0_2) := (blk_cell BK101.out 2).trans rfl
      have hcz11_3 : wc.cell? ⟨gb101, 3, none⟩ = some (.int .i64 a0_3) := (blk_cell BK101.out 3).trans rfl
      have hcz11_4 : wc.cell? ⟨gb101, 4, none⟩ = some (.int .i64 a0_4) := (blk_cell BK101.out 4).trans rfl
      have hcz11_5 : wc.cell? ⟨gb101, 5, none⟩ = some (.int .i64 a0_5) := (blk_cell BK101.out 5).trans rfl
      have hcz11_6 : wc.cell? ⟨gb101, 6, none⟩ = some (.int .i64 a0_6) := (blk_cell BK101.out 6).trans rfl
      have hfz11_0 := blk_frozen BK101.out 0
      have hfz11_1 := blk_frozen BK101.out 1
      have hfz11_2 := blk_frozen BK101.out 2
      have hfz11_3 := blk_frozen BK101.out 3
      have hfz11_4 := blk_frozen BK101.out 4
      have hfz11_5 := blk_frozen BK101.out 5
      have hfz11_6 := blk_frozen BK101.out 6
      go_wp2
      go_ret
      exact ⟨by first | rfl | (simp [errW_none, errW_some] <;> rfl) | (simp [*, errW_none, errW_some] <;> rfl), by repeat (first | (with_reducible first | exact HB.out | apply below_alloc | apply pw_below_drewN | apply below_drew1 | refine below_set ?_ GE101.out) | exact HB.out)⟩
     ·rw [if_neg c10] at H
      have c10b0 : decide (1 ≤ a0_2) = false := decide_eq_false c10
      clear c10
      obtain rfl := Option.some.inj H
      have hcz12_0 : wc.cell? ⟨gb101, 0, none⟩ = some (.int .i64 a0_0) := (blk_cell BK101.out 0).trans rfl
      have hcz12_1 : wc.cell? ⟨gb101, 1, none⟩ = some (.int .i64 a0_1) := (blk_cell BK101.out 1).trans rfl
      have hcz12_2 : wc.cell? ⟨gb101, 2, none⟩ = some (.int .i64 a0_2) := (blk_cell BK101.out 2).trans rfl
      have hcz12_3 : wc.cell? ⟨gb101, 3, none⟩ = some (.int .i64 a0_3) := (blk_cell BK101.out 3).trans rfl
      have hcz12_4 : wc.cell? ⟨gb101, 4, none⟩ = some (.int .i64 a0_4) := (blk_cell BK101.out 4).trans rfl
      have hcz12_5 : wc.cell? ⟨gb101, 5, none⟩ = some (.int .i64 a0_5) := (blk_cell BK101.out 5).trans rfl
      have hcz12_6 : wc.cell? ⟨gb101, 6, none⟩ = some (.int .i64 a0_6) := (blk_cell BK101.out 6).trans rfl
      have hfz12_0 := blk_frozen BK101.out 0
      have hfz12_1 := blk_frozen BK101.out 1
      have hfz12_2 := blk_frozen BK101.out 2
      have hfz12_3 := blk_frozen BK101.out 3
      have hfz12_4 := blk_frozen BK101.out 4
      have hfz12_5 := blk_frozen BK101.out 5
      have hfz12_6 := blk_frozen BK101.out 6
      go_wp2
      go_ret
      exact ⟨by first | rfl | (simp [errW_none, errW_some] <;> rfl) | (simp [*, errW_none, errW_some] <;> rfl), by repeat (first | (with_reducible first | exact HB.out | apply below_alloc | apply pw_below_drewN | apply below_drew1 | refine below_set ?_ GE101.out) | exact HB.out)⟩
    ·replace c9 := Bool.eq_false_iff.mpr c9
     subst c9
     have H1 : (if a0_0 = 3 then (if a0_2 ≥ 1 then (some (decide (a0_2 ≤ 5))) else (some false)) else (if a0_0 = 4 then (if a0_2 = 7 then (some true) else (some (a0_2 == 8))) else (some false))) = some r := by rw [if_neg (show ¬ (false = true) by decide)] at H; exact H
     clear H
     have H := H1
     clear H1
     by_cases c13 : a0_0 = 3
     ·rw [if_pos c13] at H
      have c13b0 : (a0_0 == 3) = true := beq_iff_eq.mpr c13
      have c13b1 : (a0_0 != 3) = false := bne_eq_false_iff_eq.mpr c13
      clear c13
      by_cases c14 : a0_2 ≥ 1
      ·rw [if_pos c14] at H
       have c14b0 : decide (1 ≤ a0_2) = true := decide_eq_true c14
       clear c14
       obtain rfl := Option.some.inj H
       have hcz15_0 : wc.cell? ⟨gb101, 0, none⟩ = some (.int .i64 a0_0) := (blk_cell BK101.out 0).trans rfl
       have hcz15_1 : wc.cell? ⟨gb101, 1, none⟩ = some (.int .i64 a0_1) := (blk_cell BK101.out 1).trans rfl
       have hcz15_2 : wc.cell? ⟨gb101, 2, none⟩ = some (.int .i64 a0_2) := (blk_cell BK101.out 2).trans rfl
       have hcz15_3 : wc.cell? ⟨gb101, 3, none⟩ = some (.int .i64 a0_3) := (blk_cell BK101.out 3).trans rfl
       have hcz15_4 : wc.cell? ⟨gb101, 4, none⟩ = some (.int .i64 a0_4) := (blk_cell BK101.out 4).trans rfl
       have hcz15_5 : wc.cell? ⟨gb101, 5, none⟩ = some (.int .i64 a0_5) := (blk_cell BK101.out 5).trans rfl
       have hcz15_6 : wc.cell? ⟨gb101, 6, none⟩ = some (.int .i64 a0_6) := (blk_cell BK101.out 6).trans rfl
       have hfz15_0 := blk_frozen BK101.out 0
       have hfz15_1 := blk_frozen BK101.out 1
       have hfz15_2 := blk_frozen BK101.out 2
       have hfz15_3 := blk_frozen BK101.out 3
       have hfz15_4 := blk_frozen BK101.out 4
       have hfz15_5 := blk_frozen BK101.out 5
       have hfz15_6 := blk_frozen BK101.out 6
       go_wp2
       go_ret
       exact ⟨by first | rfl | (simp [errW_none, errW_some] <;> rfl) | (simp [*, errW_none, errW_some] <;> rfl), by repeat (first | (with_reducible first | exact HB.out | apply below_alloc | apply pw_below_drewN | apply below_drew1 | refine below_set ?_ GE101.out) | exact HB.out)⟩
      ·rw [if_neg c14] at H
       have c14b0 : decide (1 ≤ a0_2) = false := decide_eq_false c14
       clear c14
       obtain rfl := Option.some.inj H
       have hcz16_0 : wc.cell? ⟨gb101, 0, none⟩ = some (.int .i64 a0_0) := (blk_cell BK101.out 0).trans rfl
       have hcz16_1 : wc.cell? ⟨gb101, 1, none⟩ = some (.int .i64 a0_1) := (blk_cell BK101.out 1).trans rfl
       have hcz16_2 : wc.cell? ⟨gb101, 2, none⟩ = some (.int .i64 a0_2) := (blk_cell BK101.out 2).trans rfl
       have hcz16_3 : wc.cell? ⟨gb101, 3, none⟩ = some (.int .i64 a0_3) := (blk_cell BK101.out 3).trans rfl
       have hcz16_4 : wc.cell? ⟨gb101, 4, none⟩ = some (.int .i64 a0_4) := (blk_cell BK101.out 4).trans rfl
       have hcz16_5 : wc.cell? ⟨gb101, 5, none⟩ = some (.int .i64 a0_5) := (blk_cell BK101.out 5).trans rfl
       have hcz16_6 : wc.cell? ⟨gb101, 6, none⟩ = some (.int .i64 a0_6) := (blk_cell BK101.out 6).trans rfl
       have hfz16_0 := blk_frozen BK101.out 0
       have hfz16_1 := blk_frozen BK101.out 1
       have hfz16_2 := blk_frozen BK101.out 2
       have hfz16_3 := blk_frozen BK101.out 3
       have hfz16_4 := blk_frozen BK101.out 4
       have hfz16_5 := blk_frozen BK101.out 5
       have hfz16_6 := blk_frozen BK101.out 6
       go_wp2
       go_ret
       exact ⟨by first | rfl | (simp [errW_none, errW_some] <;> rfl) | (simp [*, errW_none, errW_some] <;> rfl), by repeat (first | (with_reducible first | exact HB.out | apply below_alloc | apply pw_below_drewN | apply below_drew1 | refine below_set ?_ GE101.out) | exact HB.out)⟩
     ·rw [if_neg c13] at H
      have c13b0 : (a0_0 == 3) = false := beq_eq_false_iff_ne.mpr c13
      have c13b1 : (a0_0 != 3) = true := bne_iff_ne.mpr c13
      by_cases c17 : a0_0 = 4
      ·rw [if_pos c17] at H
       have c17b0 : (a0_0 == 4) = true := beq_iff_eq.mpr c17
       have c17b1 : (a0_0 != 4) = false := bne_eq_false_iff_eq.mpr c17
       clear c17
       by_cases c18 : a0_2 = 7
       ·rw [if_pos c18] at H
        have c18b0 : (a0_2 == 7) = true := beq_iff_eq.mpr c18
        have c18b1 : (a0_2 != 7) = false := bne_eq_false_iff_eq.mpr c18
        clear c18
        obtain rfl := Option.some.inj H
        have hcz19_0 : wc.cell? ⟨gb101, 0, none⟩ = some (.int .i64 a0_0) := (blk_cell BK101.out 0).trans rfl
        have hcz19_1 : wc.cell? ⟨gb101, 1, none⟩ = some (.int .i64 a0_1) := (blk_cell BK101.out 1).trans rfl
        have hcz19_2 : wc.cell? ⟨gb101, 2, none⟩ = some (.int .i64 a0_2) := (blk_cell BK101.out 2).trans rfl
        have hcz19_3 : wc.cell? ⟨gb101, 3, none⟩ = some (.int .i64 a0_3) := (blk_cell BK101.out 3).trans rfl
        have hcz19_4 : wc.cell? ⟨gb101, 4, none⟩ = some (.int .i64 a0_4) := (blk_cell BK101.out 4).trans rfl
        have hcz19_5 : wc.cell? ⟨gb101, 5, none⟩ = some (.int .i64 a0_5) := (blk_cell BK101.out 5).trans rfl
        have hcz19_6 : wc.cell? ⟨gb101, 6, none⟩ = some (.int .i64 a0_6) := (blk_cell BK101.out 6).trans rfl
        have hfz19_0 := blk_frozen BK101.out 0
        have hfz19_1 := blk_frozen BK101.out 1
        have hfz19_2 := blk_frozen BK101.out 2
        have hfz19_3 := blk_frozen BK101.out 3
        have hfz19_4 := blk_frozen BK101.out 4
        have hfz19_5 := blk_frozen BK101.out 5
        have hfz19_6 := blk_frozen BK101.out 6
        go_wp2
        go_ret
        exact ⟨by first | rfl | (simp [errW_none, errW_some] <;> rfl) | (simp [*, errW_none, errW_some] <;> rfl), by repeat (first | (with_reducible first | exact HB.out | apply below_alloc | apply pw_below_drewN | apply below_drew1 | refine below_set ?_ GE101.out) | exact HB.out)⟩
       ·rw [if_neg c18] at H
        have c18b0 : (a0_2 == 7) = false := beq_eq_false_iff_ne.mpr c18
        have c18b1 : (a0_2 != 7) = true := bne_iff_ne.mpr c18
        obtain rfl := Option.some.inj H
        have hcz20_0 : wc.cell? ⟨gb101, 0, none⟩ = some (.int .i64 a0_0) := (blk_cell BK101.out 0).trans rfl
        have hcz20_1 : wc.cell? ⟨gb101, 1, none⟩ = some (.int .i64 a0_1) := (blk_cell BK101.out 1).trans rfl
        have hcz20_2 : wc.cell? ⟨gb101, 2, none⟩ = some (.int .i64 a0_2) := (blk_cell BK101.out 2).trans rfl
        have hcz20_3 : wc.cell? ⟨gb101, 3, none⟩ = some (.int .i64 a0_3) := (blk_cell BK101.out 3).trans rfl
        have hcz20_4 : wc.cell? ⟨gb101, 4, none⟩ = some (.int .i64 a0_4) := (blk_cell BK101.out 4).trans rfl
        have hcz20_5 : wc.cell? ⟨gb101, 5, none⟩ = some (.int .i64 a0_5) := (blk_cell BK101.out 5).trans rfl
        have hcz20_6 : wc.cell? ⟨gb101, 6, none⟩ = some (.int .i64 a0_6) := (blk_cell BK101.out 6).trans rfl
        have hfz20_0 := blk_frozen BK101.out 0
        have hfz20_1 := blk_frozen BK101.out 1
        have hfz20_2 := blk_frozen BK101.out 2
        have hfz20_3 := blk_frozen BK101.out 3
        have hfz20_4 := blk_frozen BK101.out 4
        have hfz20_5 := blk_frozen BK101.out 5
        have hfz20_6 := blk_frozen BK101.out 6
        go_wp2
        go_ret
        exact ⟨by first | rfl | (simp [errW_none, errW_some] <;> rfl) | (simp [*, errW_none, errW_some] <;> rfl), by repeat (first | (with_reducible first | exact HB.out | apply below_alloc | apply pw_below_drewN | apply below_drew1 | refine below_set ?_ GE101.out) | exact HB.out)⟩
      ·rw [if_neg c17] at H
       have c17b0 : (a0_0 == 4) = false := beq_eq_false_iff_ne.mpr c17
       have c17b1 : (a0_0 != 4) = true := bne_iff_ne.mpr c17
       obtain rfl := Option.some.inj H
       go_wp2
       go_ret
       exact ⟨by first | rfl | (simp [errW_none, errW_some] <;> rfl) | (simp [*, errW_none, errW_some] <;> rfl), by repeat (first | (with_reducible first | exact HB.out | apply below_alloc | apply pw_below_drewN | apply below_drew1 | refine below_set ?_ GE101.out) | exact HB.out)⟩
def knellref24_still.f (a0 : Int) : Option (Bool) := if a0 = 1 then (some true) else (if a0 = 3 then (some true) else (some (a0 == 6)))
theorem knellref24_still.calls (a0 : Int) (r : Bool) (w : World) (h : knellref24_still.f a0 = some r) :
  Calls Tryd.prog 20 #[.int .i64 a0] w fun e w' => e = .returned (.bool r) ∧ Drawn0 w w' := by
 have H : (if a0 = 1 then (some true) else (if a0 = 3 then (some true) else (some (a0 == 6)))) = some r := h
 clear h
 by_cases c2 : a0 = 1
 ·rw [if_pos c2] at H
  have c2b0 : (a0 == 1) = true := beq_iff_eq.mpr c2
  have c2b1 : (a0 != 1) = false := bne_eq_false_iff_eq.mpr c2
  clear c2
  obtain rfl := Option.some.inj H
  go_enter Tryd.func20, Tryd.ntmps20
  go_wp2
  go_ret
  exact ⟨by first | rfl | (simp; done) | (simp [*]; done), by repeat (first | exact Drawn0.refl _ | apply Drawn0.step)⟩
 ·rw [if_neg c2] at H
  have c2b0 : (a0 == 1) = false := beq_eq_false_iff_ne.mpr c2
  have c2b1 : (a0 != 1) = true := bne_iff_ne.mpr c2
  by_cases c3 : a0 = 3
  ·rw [if_pos c3] at H
   have c3b0 : (a0 == 3) = true := beq_iff_eq.mpr c3
   have c3b1 : (a0 != 3) = false := bne_eq_false_iff_eq.mpr c3
   clear c3
   obtain rfl := Option.some.inj H
   go_enter Tryd.func20, Tryd.ntmps20
   go_wp2
   go_ret
   exact ⟨by first | rfl | (simp; done) | (simp [*]; done), by repeat (first | exact Drawn0.refl _ | apply Drawn0.step)⟩
  ·rw [if_neg c3] at H
   have c3b0 : (a0 == 3) = false := beq_eq_false_iff_ne.mpr c3
   have c3b1 : (a0 != 3) = true := bne_iff_ne.mpr c3
   obtain rfl := Option.some.inj H
   go_enter Tryd.func20, Tryd.ntmps20
   go_wp2
   go_ret
   exact ⟨by first | rfl | (simp; done) | (simp [*]; done), by repeat (first | exact Drawn0.refl _ | apply Drawn0.step)⟩
def knellref24_Has.j0 : Nat → Int → Bool → Int → Int → Int → Int → Int → Int → Int → Option (Bool)
 | 0, _, _, _, _, _, _, _, _, _ => none
 | k + 1, x1, x5, x103000, x103001, x103002, x103003, x103004, x103005, x103006 => if x1 = 119 then (some (x103000 != 1)) else (if x1 = 99 then (if x103000 = 2 then (if x5 = true then (some true) else (if x103000 = 3 then (some true) else (some (x103000 == 4)))) else (if x103000 = 3 then (some true) else (some (x103000 == 4)))) else (if x1 = 116 then (if x103000 = 1 then (some true) else (if x103000 = 4 then (some true) else (if x103000 = 3 then ((knellref24_still.f x103006).bind fun t103 => (some (!t103))) else (some false)))) else (if x1 = 100 then (if x103000 = 2 then (some (x103002 == 4)) else (some false)) else (if x103000 = 3 then (some true) else (if x103000 = 5 then (some x5) else (some false))))))
def knellref24_Has.f (k : Nat) (a0_0 : Int) (a0_1 : Int) (a0_2 : Int) (a0_3 : Int) (a0_4 : Int) (a0_5 : Int) (a0_6 : Int) (a1 : Int) : Option (Bool) := if a0_2 ≥ 1 then (knellref24_Has.j0 k a1 (decide (a0_2 ≤ 5)) a0_0 a0_1 a0_2 a0_3 a0_4 a0_5 a0_6) else (knellref24_Has.j0 k a1 false a0_0 a0_1 a0_2 a0_3 a0_4 a0_5 a0_6)
theorem knellref24_Has.calls (k : Nat) (a0_0 : Int) (a0_1 : Int) (a0_2 : Int) (a0_3 : Int) (a0_4 : Int) (a0_5 : Int) (a0_6 : Int) (a1 : Int) (r : Bool) (w : World) (h : knellref24_Has.f k a0_0 a0_1 a0_2 a0_3 a0_4 a0_5 a0_6 a1 = some r) :
  Calls Tryd.prog 12 #[.agg #[.int .i64 a0_0, .int .i64 a0_1, .int .i64 a0_2, .int .i64 a0_3, .int .i64 a0_4, .int .i64 a0_5, .int .i64 a0_6], .int .u8 a1] w fun e w' => e = .returned (.bool r) ∧ Below w.heap.size w w' := by
 have hu23 := Tryd.underlying23
 have HB := Aside0.mk (Below.refl w.heap.size w)
 have H : (if a0_2 ≥ 1 then (knellref24_Has.j0 k a1 (decide (a0_2 ≤ 5)) a0_0 a0_1 a0_2 a0_3 a0_4 a0_5 a0_6) else (knellref24_Has.j0 k a1 false a0_0 a0_1 a0_2 a0_3 a0_4 a0_5 a0_6)) = some r := h
 clear h
 have HC3 := Aside0.mk H
 clear H
 go_enter Tryd.func12, Tryd.ntmps12
 go_upto_region 1 with (first | ((with_reducible refine gate_dst (N := 2) rfl ?_); refine box_event ?hg (N := 2) ?hd (cs := #[.int .i64 a0_0, .int .i64 a0_1, .int .i64 a0_2, .int .i64 a0_3, .int .i64 a0_4, .int .i64 a0_5, .int .i64 a0_6]) (t := 23) ?hr ?_; (case hd => rfl); (case hg => rfl); (case hr => first | (go_simp; done) | (go_simp; rfl)); intro gb102 hg w4 hbox hb; have n0_ := Aside0.mk (below_step (by repeat (first | (with_reducible first | exact HB.out | apply below_alloc | apply pw_below_drewN | apply below_drew1) | exact HB.out)) hb); have n1_ := Aside0.mk (hbox); have n2_ := Aside0.mk ((by rw [hg]; exact (below_size (by repeat (first | (with_reducible first | exact HB.out | apply below_alloc | apply pw_below_drewN | apply below_drew1) | exact HB.out))) : w.heap.size ≤ gb102)); have n3_ := Aside0.mk ((by rw [hg]; exact (below_size (by repeat (first | (with_reducible first | exact HB.out | apply below_alloc | apply pw_below_drewN | apply below_drew1) | exact HB.out))) : w.heap.size ≤ gb102)); clear HB; have HB := n0_; have BK102 := n1_; have GW102 := n2_; have GE102 := n3_; clear n0_ n1_ n2_ n3_; clear hb hbox hg))
 (try simp only [Act.put, sQ0, sQ1, sQ2])
 go_cut [5] (fun v5 wc => ∃ (kq : Nat) (x5_2 : Bool), v5 = .bool x5_2 ∧ Aside0 (knellref24_Has.j0 kq a1 x5_2 a0_0 a0_1 a0_2 a0_3 a0_4 a0_5 a0_6 = some r) ∧ Aside0 (kq ≤ k) ∧ Aside0 (wc.heap[gb102]? = some (.cells #[.int .i64 a0_0, .int .i64 a0_1, .int .i64 a0_2, .int .i64 a0_3, .int .i64 a0_4, .int .i64 a0_5, .int .i64 a0_6] 23 (0, 0))) ∧ Aside0 (Below w.heap.size w wc))
 case first =>
  have H := HC3.out
  clear HC3
  by_cases c5 : a0_2 ≥ 1
  ·rw [if_pos c5] at H
   have c5b0 : decide (1 ≤ a0_2) = true := decide_eq_true c5
   clear c5
   (first | rw [c5b0] | (simp only [i64_w, i32_w]; rw [c5b0]) | skip)
   have H' := Aside0.mk H
   clear H
   have hcz6_0 : w4.cell? ⟨gb102, 0, none⟩ = some (.int .i64 a0_0) := (blk_cell BK102.out 0).trans rfl
   have hcz6_1 : w4.cell? ⟨gb102, 1, none⟩ = some (.int .i64 a0_1) := (blk_cell BK102.out 1).trans rfl
   have hcz6_2 : w4.cell? ⟨gb102, 2, none⟩ = some (.int .i64 a0_2) := (blk_cell BK102.out 2).trans rfl
   have hcz6_3 : w4.cell? ⟨gb102, 3, none⟩ = some (.int .i64 a0_3) := (blk_cell BK102.out 3).trans rfl
   have hcz6_4 : w4.cell? ⟨gb102, 4, none⟩ = some (.int .i64 a0_4) := (blk_cell BK102.out 4).trans rfl
   have hcz6_5 : w4.cell? ⟨gb102, 5, none⟩ = some (.int .i64 a0_5) := (blk_cell BK102.out 5).trans rfl
   have hcz6_6 : w4.cell? ⟨gb102, 6, none⟩ = some (.int .i64 a0_6) := (blk_cell BK102.out 6).trans rfl
   have hfz6_0 := blk_frozen BK102.out 0
   have hfz6_1 := blk_frozen BK102.out 1
   have hfz6_2 := blk_frozen BK102.out 2
   have hfz6_3 := blk_frozen BK102.out 3
   have hfz6_4 := blk_frozen BK102.out 4
   have hfz6_5 := blk_frozen BK102.out 5
   have hfz6_6 := blk_frozen BK102.out 6
   go_wp2
   go_meet
   case rel => exact ⟨_, (decide (a0_2 ≤ 5)), (by first | rfl | (simp; done) | (simp [*]; done)), H', ⟨by first | omega | exact Nat.le_refl _⟩, ⟨by (with_reducible repeat (first | refine blk_drewN ?_ _ | refine blk_drew ?_ | refine blk_alloc ?_ _)); exact BK102.out⟩, ⟨by repeat (first | (with_reducible first | exact HB.out | apply below_alloc | apply pw_below_drewN | apply below_drew1 | refine below_set ?_ GE102.out) | exact HB.out)⟩⟩
  ·rw [if_neg c5] at H
   have c5b0 : decide (1 ≤ a0_2) = false := decide_eq_false c5
   clear c5
   (first | rw [c5b0] | (simp only [i64_w, i32_w]; rw [c5b0]) | skip)
   have H' := Aside0.mk H
   clear H
   have hcz7_0 : w4.cell? ⟨gb102, 0, none⟩ = some (.int .i64 a0_0) := (blk_cell BK102.out 0).trans rfl
   have hcz7_1 : w4.cell? ⟨gb102, 1, none⟩ = some (.int .i64 a0_1) := (blk_cell BK102.out 1).trans rfl
   have hcz7_2 : w4.cell? ⟨gb102, 2, none⟩ = some (.int .i64 a0_2) := (blk_cell BK102.out 2).trans rfl
   have hcz7_3 : w4.cell? ⟨gb102, 3, none⟩ = some (.int .i64 a0_3) := (blk_cell BK102.out 3).trans rfl
   have hcz7_4 : w4.cell? ⟨gb102, 4, none⟩ = some (.int .i64 a0_4) := (blk_cell BK102.out 4).trans rfl
   have hcz7_5 : w4.cell? ⟨gb102, 5, none⟩ = some (.int .i64 a0_5) := (blk_cell BK102.out 5).trans rfl
   have hcz7_6 : w4.cell? ⟨gb102, 6, none⟩ = some (.int .i64 a0_6) := (blk_cell BK102.out 6).trans rfl
   have hfz7_0 := blk_frozen BK102.out 0
   have hfz7_1 := blk_frozen BK102.out 1
   have hfz7_2 := blk_frozen BK102.out 2
   have hfz7_3 := blk_frozen BK102.out 3
   have hfz7_4 := blk_frozen BK102.out 4
   have hfz7_5 := blk_frozen BK102.out 5
   have hfz7_6 := blk_frozen BK102.out 6
   go_wp2
   go_meet
   case rel => exact ⟨_, (false), (by first | rfl | (simp; done) | (simp [*]; done)), H', ⟨by first | omega | exact Nat.le_refl _⟩, ⟨by (with_reducible repeat (first | refine blk_drewN ?_ _ | refine blk_drew ?_ | refine blk_alloc ?_ _)); exact BK102.out⟩, ⟨by repeat (first | (with_reducible first | exact HB.out | apply below_alloc | apply pw_below_drewN | apply below_drew1 | refine below_set ?_ GE102.out) | exact HB.out)⟩⟩
 case rest =>
  clear HC3
  try clear c1
  try clear p2
  try clear c5
  try clear c5b0
  try clear hcz6_0
  try clear hcz6_1
  try clear hcz6_2
  try clear hcz6_3
  try clear hcz6_4
  try clear hcz6_5
  try clear hcz6_6
  try clear hcz7_0
  try clear hcz7_1
  try clear hcz7_2
  try clear hcz7_3
  try clear hcz7_4
  try clear hcz7_5
  try clear hcz7_6
  try clear hfz6_0
  try clear hfz6_1
  try clear hfz6_2
  try clear hfz6_3
  try clear hfz6_4
  try clear hfz6_5
  try clear hfz6_6
  try clear hfz7_0
  try clear hfz7_1
  try clear hfz7_2
  try clear hfz7_3
  try clear hfz7_4
  try clear hfz7_5
  try clear hfz7_6
  obtain ⟨kq, x5_2, rfl, HA, HJ2, BK102, HB⟩ := hcut
  cases kq with
  | zero => exact absurd HA.out (by simp [knellref24_Has.j0])
  | succ kj2 =>
   have H := HA.out
   clear HA
   simp only [knellref24_Has.j0] at H
   by_cases c8 : a1 = 119
   ·rw [if_pos c8] at H
    have c8b0 : (a1 == 119) = true := beq_iff_eq.mpr c8
    have c8b1 : (a1 != 119) = false := bne_eq_false_iff_eq.mpr c8
    clear c8
    obtain rfl := Option.some.inj H
    have hcz9_0 : wc.cell? ⟨gb102, 0, none⟩ = some (.int .i64 a0_0) := (blk_cell BK102.out 0).trans rfl
    have hcz9_1 : wc.cell? ⟨gb102, 1, none⟩ = some (.int .i64 a0_1) := (blk_cell BK102.out 1).trans rfl
    have hcz9_2 : wc.cell? ⟨gb102, 2, none⟩ = some (.int .i64 a0_2) := (blk_cell BK102.out 2).trans rfl
    have hcz9_3 : wc.cell? ⟨gb102, 3, none⟩ = some (.int .i64 a0_3) := (blk_cell BK102.out 3).trans rfl
    have hcz9_4 : wc.cell? ⟨gb102, 4, none⟩ = some (.int .i64 a0_4) := (blk_cell BK102.out 4).trans rfl
    have hcz9_5 : wc.cell? ⟨gb102, 5, none⟩ = some (.int .i64 a0_5) := (blk_cell BK102.out 5).trans rfl
    have hcz9_6 : wc.cell? ⟨gb102, 6, none⟩ = some (.int .i64 a0_6) := (blk_cell BK102.out 6).trans rfl
    have hfz9_0 := blk_frozen BK102.out 0
    have hfz9_1 := blk_frozen BK102.out 1
    have hfz9_2 := blk_frozen BK102.out 2
    have hfz9_3 := blk_frozen BK102.out 3
    have hfz9_4 := blk_frozen BK102.out 4
    have hfz9_5 := blk_frozen BK102.out 5
    have hfz9_6 := blk_frozen BK102.out 6
    go_wp2
    go_ret
    exact ⟨by first | rfl | (simp [errW_none, errW_some] <;> rfl) | (simp [*, errW_none, errW_some] <;> rfl), by repeat (first | (with_reducible first | exact HB.out | apply below_alloc | apply pw_below_drewN | apply below_drew1 | refine below_set ?_ GE102.out) | exact HB.out)⟩
   ·rw [if_neg c8] at H
    have c8b0 : (a1 == 119) = false := beq_eq_false_iff_ne.mpr c8
    have c8b1 : (a1 != 119) = true := bne_iff_ne.mpr c8
    by_cases c10 : a1 = 99
    ·rw [if_pos c10] at H
     have c10b0 : (a1 == 99) = true := beq_iff_eq.mpr c10
     have c10b1 : (a1 != 99) = false := bne_eq_false_iff_eq.mpr c10
     clear c10
     by_cases c11 : a0_0 = 2
     ·rw [if_pos c11] at H
      have c11b0 : (a0_0 == 2) = true := beq_iff_eq.mpr c11
      have c11b1 : (a0_0 != 2) = false := bne_eq_false_iff_eq.mpr c11
      clear c11
      by_cases c12 : x5_2 = true
      ·subst c12
       have H1 : (some true) = some r := by rw [if_pos rfl] at H; exact H
       clear H
       have H := H1
       clear H1
       obtain rfl := Option.some.inj H
       have hcz13_0 : wc.cell? ⟨gb102, 0, none⟩ = some (.int .i64 a0_0) := (blk_cell BK102.out 0).trans rfl
       have hcz13_1 : wc.cell? ⟨gb102, 1, none⟩ = some (.int .i64 a0_1) := (blk_cell BK102.out 1).trans rfl
       have hcz13_2 : wc.cell? ⟨gb102, 2, none⟩ = some (.int .i64 a0_2) := (blk_cell BK102.out 2).trans rfl
       have hcz13_3 : wc.cell? ⟨gb102, 3, none⟩ = some (.int .i64 a0_3) := (blk_cell BK102.out 3).trans rfl
       have hcz13_4 : wc.cell? ⟨gb102, 4, none⟩ = some (.int .i64 a0_4) := (blk_cell BK102.out 4).trans rfl
       have hcz13_5 : wc.cell? ⟨gb102, 5, none⟩ = some (.int .i64 a0_5) := (blk_cell BK102.out 5).trans rfl
       have hcz13_6 : wc.cell? ⟨gb102, 6, none⟩ = some (.int .i64 a0_6) := (blk_cell BK102.out 6).trans rfl
       have hfz13_0 := blk_frozen BK102.out 0
       have hfz13_1 := blk_frozen BK102.out 1
       have hfz13_2 := blk_frozen BK102.out 2
       have hfz13_3 := blk_frozen BK102.out 3
       have hfz13_4 := blk_frozen BK102.out 4
       have hfz13_5 := blk_frozen BK102.out 5
       have hfz13_6 := blk_frozen BK102.out 6
       go_wp2
       go_ret
       exact ⟨by first | rfl | (simp [errW_none, errW_some] <;> rfl) | (simp [*, errW_none, errW_some] <;> rfl), by repeat (first | (with_reducible first | exact HB.out | apply below_alloc | apply pw_below_drewN | apply below_drew1 | refine below_set ?_ GE102.out) | exact HB.out)⟩
      ·replace c12 := Bool.eq_false_iff.mpr c12
       subst c12
       have H1 : (if a0_0 = 3 then (some true) else (some (a0_0 == 4))) = some r := by rw [if_neg (show ¬ (false = true) by decide)] at H; exact H
       clear H
       have H := H1
       clear H1
       by_cases c14 : a0_0 = 3
       ·rw [if_pos c14] at H
        have c14b0 : (a0_0 == 3) = true := beq_iff_eq.mpr c14
        have c14b1 : (a0_0 != 3) = false := bne_eq_false_iff_eq.mpr c14
        clear c14
        obtain rfl := Option.some.inj H
        have hcz15_0 : wc.cell? ⟨gb102, 0, none⟩ = some (.int .i64 a0_0) := (blk_cell BK102.out 0).trans rfl
        have hcz15_1 : wc.cell? ⟨gb102, 1, none⟩ = some (.int .i64 a0_1) := (blk_cell BK102.out 1).trans rfl
        have hcz15_2 : wc.cell? ⟨gb102, 2, none⟩ = some (.int .i64 a0_2) := (blk_cell BK102.out 2).trans rfl
        have hcz15_3 : wc.cell? ⟨gb102, 3, none⟩ = some (.int .i64 a0_3) := (blk_cell BK102.out 3).trans rfl
        have hcz15_4 : wc.cell? ⟨gb102, 4, none⟩ = some (.int .i64 a0_4) := (blk_cell BK102.out 4).trans rfl
        have hcz15_5 : wc.cell? ⟨gb102, 5, none⟩ = some (.int .i64 a0_5) := (blk_cell BK102.out 5).trans rfl
        have hcz15_6 : wc.cell? ⟨gb102, 6, none⟩ = some (.int .i64 a0_6) := (blk_cell BK102.out 6).trans rfl
        have hfz15_0 := blk_frozen BK102.out 0
        have hfz15_1 := blk_frozen BK102.out 1
        have hfz15_2 := blk_frozen BK102.out 2
        have hfz15_3 := blk_frozen BK102.out 3
        have hfz15_4 := blk_frozen BK102.out 4
        have hfz15_5 := blk_frozen BK102.out 5
        have hfz15_6 := blk_frozen BK102.out 6
        go_wp2
        go_ret
        exact ⟨by first | rfl | (simp [errW_none, errW_some] <;> rfl) | (simp [*, errW_none, errW_some] <;> rfl), by repeat (first | (with_reducible first | exact HB.out | apply below_alloc | apply pw_below_drewN | apply below_drew1 | refine below_set ?_ GE102.out) | exact HB.out)⟩
       ·rw [if_neg c14] at H
        have c14b0 : (a0_0 == 3) = false := beq_eq_false_iff_ne.mpr c14
        have c14b1 : (a0_0 != 3) = true := bne_iff_ne.mpr c14
        obtain rfl := Option.some.inj H
        have hcz16_0 : wc.cell? ⟨gb102, 0, none⟩ = some (.int .i64 a0_0) := (blk_cell BK102.out 0).trans rfl
        have hcz16_1 : wc.cell? ⟨gb102, 1, none⟩ = some (.int .i64 a0_1) := (blk_cell BK102.out 1).trans rfl
        have hcz16_2 : wc.cell? ⟨gb102, 2, none⟩ = some (.int .i64 a0_2) := (blk_cell BK102.out 2).trans rfl
        have hcz16_3 : wc.cell? ⟨gb102, 3, none⟩ = some (.int .i64 a0_3) := (blk_cell BK102.out 3).trans rfl
        have hcz16_4 : wc.cell? ⟨gb102, 4, none⟩ = some (.int .i64 a0_4) := (blk_cell BK102.out 4).trans rfl
        have hcz16_5 : wc.cell? ⟨gb102, 5, none⟩ = some (.int .i64 a0_5) := (blk_cell BK102.out 5).trans rfl
        have hcz16_6 : wc.cell? ⟨gb102, 6, none⟩ = some (.int .i64 a0_6) := (blk_cell BK102.out 6).trans rfl
        have hfz16_0 := blk_frozen BK102.out 0
        have hfz16_1 := blk_frozen BK102.out 1
        have hfz16_2 := blk_frozen BK102.out 2
        have hfz16_3 := blk_frozen BK102.out 3
        have hfz16_4 := blk_frozen BK102.out 4
        have hfz16_5 := blk_frozen BK102.out 5
        have hfz16_6 := blk_frozen BK102.out 6
        go_wp2
        go_ret
        exact ⟨by first | rfl | (simp [errW_none, errW_some] <;> rfl) | (simp [*, errW_none, errW_some] <;> rfl), by repeat (first | (with_reducible first | exact HB.out | apply below_alloc | apply pw_below_drewN | apply below_drew1 | refine below_set ?_ GE102.out) | exact HB.out)⟩
     ·rw [if_neg c11] at H
      have c11b0 : (a0_0 == 2) = false := beq_eq_false_iff_ne.mpr c11
      have c11b1 : (a0_0 != 2) = true := bne_iff_ne.mpr c11
      by_cases c17 : a0_0 = 3
      ·rw [if_pos c17] at H
       have c17b0 : (a0_0 == 3) = true := beq_iff_eq.mpr c17
       have c17b1 : (a0_0 != 3) = false := bne_eq_false_iff_eq.mpr c17
       clear c17
       obtain rfl := Option.some.inj H
       have hcz18_0 : wc.cell? ⟨gb102, 0, none⟩ = some (.int .i64 a0_0) := (blk_cell BK102.out 0).trans rfl
       have hcz18_1 : wc.cell? ⟨gb102, 1, none⟩ = some (.int .i64 a0_1) := (blk_cell BK102.out 1).trans rfl
       have hcz18_2 : wc.cell? ⟨gb102, 2, none⟩ = some (.int .i64 a0_2) := (blk_cell BK102.out 2).trans rfl
       have hcz18_3 : wc.cell? ⟨gb102, 3, none⟩ = some (.int .i64 a0_3) := (blk_cell BK102.out 3).trans rfl
       have hcz18_4 : wc.cell? ⟨gb102, 4, none⟩ = some (.int .i64 a0_4) := (blk_cell BK102.out 4).trans rfl
       have hcz18_5 : wc.cell? ⟨gb102, 5, none⟩ = some (.int .i64 a0_5) := (blk_cell BK102.out 5).trans rfl
       have hcz18_6 : wc.cell? ⟨gb102, 6, none⟩ = some (.int .i64 a0_6) := (blk_cell BK102.out 6).trans rfl
       have hfz18_0 := blk_frozen BK102.out 0
       have hfz18_1 := blk_frozen BK102.out 1
       have hfz18_2 := blk_frozen BK102.out 2
       have hfz18_3 := blk_frozen BK102.out 3
       have hfz18_4 := blk_frozen BK102.out 4
       have hfz18_5 := blk_frozen BK102.out 5
       have hfz18_6 := blk_frozen BK102.out 6
       go_wp2
       go_ret
       exact ⟨by first | rfl | (simp [errW_none, errW_some] <;> rfl) | (simp [*, errW_none, errW_some] <;> rfl), by repeat (first | (with_reducible first | exact HB.out | apply below_alloc | apply pw_below_drewN | apply below_drew1 | refine below_set ?_ GE102.out) | exact HB.out)⟩
      ·rw [if_neg c17] at H
       have c17b0 : (a0_0 == 3) = false := beq_eq_false_iff_ne.mpr c17
       have c17b1 : (a0_0 != 3) = true := bne_iff_ne.mpr c17
       obtain rfl := Option.some.inj H
       have hcz19_0 : wc.cell? ⟨gb102, 0, none⟩ = some (.int .i64 a0_0) := (blk_cell BK102.out 0).trans rfl
       have hcz19_1 : wc.cell? ⟨gb102, 1, none⟩ = some (.int .i64 a0_1) := (blk_cell BK102.out 1).trans rfl
       have hcz19_2 : wc.cell? ⟨gb102, 2, none⟩ = some (.int .i64 a0_2) := (blk_cell BK102.out 2).trans rfl
       have hcz19_3 : wc.cell? ⟨gb102, 3, none⟩ = some (.int .i64 a0_3) := (blk_cell BK102.out 3).trans rfl
       have hcz19_4 : wc.cell? ⟨gb102, 4, none⟩ = some (.int .i64 a0_4) := (blk_cell BK102.out 4).trans rfl
       have hcz19_5 : wc.cell? ⟨gb102, 5, none⟩ = some (.int .i64 a0_5) := (blk_cell BK102.out 5).trans rfl
       have hcz19_6 : wc.cell? ⟨gb102, 6, none⟩ = some (.int .i64 a0_6) := (blk_cell BK102.out 6).trans rfl
       have hfz19_0 := blk_frozen BK102.out 0
       have hfz19_1 := blk_frozen BK102.out 1
       have hfz19_2 := blk_frozen BK102.out 2
       have hfz19_3 := blk_frozen BK102.out 3
       have hfz19_4 := blk_frozen BK102.out 4
       have hfz19_5 := blk_frozen BK102.out 5
       have hfz19_6 := blk_frozen BK102.out 6
       go_wp2
       go_ret
       exact ⟨by first | rfl | (simp [errW_none, errW_some] <;> rfl) | (simp [*, errW_none, errW_some] <;> rfl), by repeat (first | (with_reducible first | exact HB.out | apply below_alloc | apply pw_below_drewN | apply below_drew1 | refine below_set ?_ GE102.out) | exact HB.out)⟩
    ·rw [if_neg c10] at H
     have c10b0 : (a1 == 99) = false := beq_eq_false_iff_ne.mpr c10
     have c10b1 : (a1 != 99) = true := bne_iff_ne.mpr c10
     by_cases c20 : a1 = 116
     ·rw [if_pos c20] at H
      have c20b0 : (a1 == 116) = true := beq_iff_eq.mpr c20
      have c20b1 : (a1 != 116) = false := bne_eq_false_iff_eq.mpr c20
      clear c20
      by_cases c21 : a0_0 = 1
      ·rw [if_pos c21] at H
       have c21b0 : (a0_0 == 1) = true := beq_iff_eq.mpr c21
       have c21b1 : (a0_0 != 1) = false := bne_eq_false_iff_eq.mpr c21
       clear c21
       obtain rfl := Option.some.inj H
       have hcz22_0 : wc.cell? ⟨gb102, 0, none⟩ = some (.int .i64 a0_0) := (blk_cell BK102.out 0).trans rfl
       have hcz22_1 : wc.cell? ⟨gb102, 1, none⟩ = some (.int .i64 a0_1) := (blk_cell BK102.out 1).trans rfl
       have hcz22_2 : wc.cell? ⟨gb102, 2, none⟩ = some (.int .i64 a0_2) := (blk_cell BK102.out 2).trans rfl
       have hcz22_3 : wc.cell? ⟨gb102, 3, none⟩ = some (.int .i64 a0_3) := (blk_cell BK102.out 3).trans rfl
       have hcz22_4 : wc.cell? ⟨gb102, 4, none⟩ = some (.int .i64 a0_4) := (blk_cell BK102.out 4).trans rfl
       have hcz22_5 : wc.cell? ⟨gb102, 5, none⟩ = some (.int .i64 a0_5) := (blk_cell BK102.out 5).trans rfl
       have hcz22_6 : wc.cell? ⟨gb102, 6, none⟩ = some (.int .i64 a0_6) := (blk_cell BK102.out 6).trans rfl
       have hfz22_0 := blk_frozen BK102.out 0
       have hfz22_1 := blk_frozen BK102.out 1
       have hfz22_2 := blk_frozen BK102.out 2
       have hfz22_3 := blk_frozen BK102.out 3
       have hfz22_4 := blk_frozen BK102.out 4
       have hfz22_5 := blk_frozen BK102.out 5
       have hfz22_6 := blk_frozen BK102.out 6
       go_wp2
       go_ret
       exact ⟨by first | rfl | (simp [errW_none, errW_some] <;> rfl) | (simp [*, errW_none, errW_some] <;> rfl), by repeat (first | (with_reducible first | exact HB.out | apply below_alloc | apply pw_below_drewN | apply below_drew1 | refine below_set ?_ GE102.out) | exact HB.out)⟩
      ·rw [if_neg c21] at H
       have c21b0 : (a0_0 == 1) = false := beq_eq_false_iff_ne.mpr c21
       have c21b1 : (a0_0 != 1) = true := bne_iff_ne.mpr c21
       by_cases c23 : a0_0 = 4
       ·rw [if_pos c23] at H
        have c23b0 : (a0_0 == 4) = true := beq_iff_eq.mpr c23
        have c23b1 : (a0_0 != 4) = false := bne_eq_false_iff_eq.mpr c23
        clear c23
        obtain rfl := Option.some.inj H
        have hcz24_0 : wc.cell? ⟨gb102, 0, none⟩ = some (.int .i64 a0_0) := (blk_cell BK102.out 0).trans rfl
        have hcz24_1 : wc.cell? ⟨gb102, 1, none⟩ = some (.int .i64 a0_1) := (blk_cell BK102.out 1).trans rfl
        have hcz24_2 : wc.cell? ⟨gb102, 2, none⟩ = some (.int .i64 a0_2) := (blk_cell BK102.out 2).trans rfl
        have hcz24_3 : wc.cell? ⟨gb102, 3, none⟩ = some (.int .i64 a0_3) := (blk_cell BK102.out 3).trans rfl
        have hcz24_4 : wc.cell? ⟨gb102, 4, none⟩ = some (.int .i64 a0_4) := (blk_cell BK102.out 4).trans rfl
        have hcz24_5 : wc.cell? ⟨gb102, 5, none⟩ = some (.int .i64 a0_5) := (blk_cell BK102.out 5).trans rfl
        have hcz24_6 : wc.cell? ⟨gb102, 6, none⟩ = some (.int .i64 a0_6) := (blk_cell BK102.out 6).trans rfl
        have hfz24_0 := blk_frozen BK102.out 0
        have hfz24_1 := blk_frozen BK102.out 1
        have hfz24_2 := blk_frozen BK102.out 2
        have hfz24_3 := blk_frozen BK102.out 3
        have hfz24_4 := blk_frozen BK102.out 4
        have hfz24_5 := blk_frozen BK102.out 5
        have hfz24_6 := blk_frozen BK102.out 6
        go_wp2
        go_ret
        exact ⟨by first | rfl | (simp [errW_none, errW_some] <;> rfl) | (simp [*, errW_none, errW_some] <;> rfl), by repeat (first | (with_reducible first | exact HB.out | apply below_alloc | apply pw_below_drewN | apply below_drew1 | refine below_set ?_ GE102.out) | exact HB.out)⟩
       ·rw [if_neg c23] at H
        have c23b0 : (a0_0 == 4) = false := beq_eq_false_iff_ne.mpr c23
        have c23b1 : (a0_0 != 4) = true := bne_iff_ne.mpr c23
        by_cases c25 : a0_0 = 3
        ·rw [if_pos c25] at H
         have c25b0 : (a0_0 == 3) = true := beq_iff_eq.mpr c25
         have c25b1 : (a0_0 != 3) = false := bne_eq_false_iff_eq.mpr c25
         clear c25
         replace H := Option.bind_eq_some_iff.mp H
         obtain ⟨t103, A260, H⟩ := H
         replace H : (some (!t103)) = some r := H
         have A26 := Aside0.mk A260
         clear A260
         obtain rfl := Option.some.inj H
         have hcz27_0 : wc.cell? ⟨gb102, 0, none⟩ = some (.int .i64 a0_0) := (blk_cell BK102.out 0).trans rfl
         have hcz27_1 : wc.cell? ⟨gb102, 1, none⟩ = some (.int .i64 a0_1) := (blk_cell BK102.out 1).trans rfl
         have hcz27_2 : wc.cell? ⟨gb102, 2, none⟩ = some (.int .i64 a0_2) := (blk_cell BK102.out 2).trans rfl
         have hcz27_3 : wc.cell? ⟨gb102, 3, none⟩ = some (.int .i64 a0_3) := (blk_cell BK102.out 3).trans rfl
         have hcz27_4 : wc.cell? ⟨gb102, 4, none⟩ = some (.int .i64 a0_4) := (blk_cell BK102.out 4).trans rfl
         have hcz27_5 : wc.cell? ⟨gb102, 5, none⟩ = some (.int .i64 a0_5) := (blk_cell BK102.out 5).trans rfl
         have hcz27_6 : wc.cell? ⟨gb102, 6, none⟩ = some (.int .i64 a0_6) := (blk_cell BK102.out 6).trans rfl
         have hfz27_0 := blk_frozen BK102.out 0
         have hfz27_1 := blk_frozen BK102.out 1
         have hfz27_2 := blk_frozen BK102.out 2
         have hfz27_3 := blk_frozen BK102.out 3
         have hfz27_4 := blk_frozen BK102.out 4
         have hfz27_5 := blk_frozen BK102.out 5
         have hfz27_6 := blk_frozen BK102.out 6
         go_wp2_with (first | (go_at_call 20; (with_reducible refine (knellref24_still.calls a0_6 t103 _ A26.out).mono ?_); rintro e w' ⟨rfl, ⟨nd, rfl⟩⟩))
         go_ret
         exact ⟨by first | rfl | (simp [errW_none, errW_some] <;> rfl) | (simp [*, errW_none, errW_some] <;> rfl), by repeat (first | (with_reducible first | exact HB.out | apply below_alloc | apply pw_below_drewN | apply below_drew1 | refine below_set ?_ GE102.out) | exact HB.out)⟩
        ·rw [if_neg c25] at H
         have c25b0 : (a0_0 == 3) = false := beq_eq_false_iff_ne.mpr c25
         have c25b1 : (a0_0 != 3) = true := bne_iff_ne.mpr c25
         obtain rfl := Option.some.inj H
         have hcz28_0 : wc.cell? ⟨gb102, 0, none⟩ = some (.int .i64 a0_0) := (blk_cell BK102.out 0).trans rfl
         have hcz28_1 : wc.cell? ⟨gb102, 1, none⟩ = some (.int .i64 a0_1) := (blk_cell BK102.out 1).trans rfl
         have hcz28_2 : wc.cell? ⟨gb102, 2, none⟩ = some (.int .i64 a0_2) := (blk_cell BK102.out 2).trans rfl
         have hcz28_3 : wc.cell? ⟨gb102, 3, none⟩ = some (.int .i64 a0_3) := (blk_cell BK102.out 3).trans rfl
         have hcz28_4 : wc.cell? ⟨gb102, 4, none⟩ = some (.int .i64 a0_4) := (blk_cell BK102.out 4).trans rfl
         have hcz28_5 : wc.cell? ⟨gb102, 5, none⟩ = some (.int .i64 a0_5) := (blk_cell BK102.out 5).trans rfl
         have hcz28_6 : wc.cell? ⟨gb102, 6, none⟩ = some (.int .i64 a0_6) := (blk_cell BK102.out 6).trans rfl
         have hfz28_0 := blk_frozen BK102.out 0
         have hfz28_1 := blk_frozen BK102.out 1
         have hfz28_2 := blk_frozen BK102.out 2
         have hfz28_3 := blk_frozen BK102.out 3
         have hfz28_4 := blk_frozen BK102.out 4
         have hfz28_5 := blk_frozen BK102.out 5
         have hfz28_6 := blk_frozen BK102.out 6
         go_wp2
         go_ret
         exact ⟨by first | rfl | (simp [errW_none, errW_some] <;> rfl) | (simp [*, errW_none, errW_some] <;> rfl), by repeat (first | (with_reducible first | exact HB.out | apply below_alloc | apply pw_below_drewN | apply below_drew1 | refine below_set ?_ GE102.out) | exact HB.out)⟩
     ·rw [if_neg c20] at H
      have c20b0 : (a1 == 116) = false := beq_eq_false_iff_ne.mpr c20
      have c20b1 : (a1 != 116) = true := bne_iff_ne.mpr c20
      by_cases c29 : a1 = 100
      ·rw [if_pos c29] at H
       have c29b0 : (a1 == 100) = true := beq_iff_eq.mpr c29
       have c29b1 : (a1 != 100) = false := bne_eq_false_iff_eq.mpr c29
       clear c29
       by_cases c30 : a0_0 = 2
       ·rw [if_pos c30] at H
        have c30b0 : (a0_0 == 2) = true := beq_iff_eq.mpr c30
        have c30b1 : (a0_0 != 2) = false := bne_eq_false_iff_eq.mpr c30
        clear c30
        obtain rfl := Option.some.inj H
        have hcz31_0 : wc.cell? ⟨gb102, 0, none⟩ = some (.int .i64 a0_0) := (blk_cell BK102.out 0).trans rfl
        have hcz31_1 : wc.cell? ⟨gb102, 1, none⟩ = some (.int .i64 a0_1) := (blk_cell BK102.out 1).trans rfl
        have hcz31_2 : wc.cell? ⟨gb102, 2, none⟩ = some (.int .i64 a0_2) := (blk_cell BK102.out 2).trans rfl
        have hcz31_3 : wc.cell? ⟨gb102, 3, none⟩ = some (.int .i64 a0_3) := (blk_cell BK102.out 3).trans rfl
        have hcz31_4 : wc.cell? ⟨gb102, 4, none⟩ = some (.int .i64 a0_4) := (blk_cell BK102.out 4).trans rfl
        have hcz31_5 : wc.cell? ⟨gb102, 5, none⟩ = some (.int .i64 a0_5) := (blk_cell BK102.out 5).trans rfl
        have hcz31_6 : wc.cell? ⟨gb102, 6, none⟩ = some (.int .i64 a0_6) := (blk_cell BK102.out 6).trans rfl
        have hfz31_0 := blk_frozen BK102.out 0
        have hfz31_1 := blk_frozen BK102.out 1
        have hfz31_2 := blk_frozen BK102.out 2
        have hfz31_3 := blk_frozen BK102.out 3
        have hfz31_4 := blk_frozen BK102.out 4
        have hfz31_5 := blk_frozen BK102.out 5
        have hfz31_6 := blk_frozen BK102.out 6
        go_wp2
        go_ret
        exact ⟨by first | rfl | (simp [errW_none, errW_some] <;> rfl) | (simp [*, errW_none, errW_some] <;> rfl), by repeat (first | (with_reducible first | exact HB.out | apply below_alloc | apply pw_below_drewN | apply below_drew1 | refine below_set ?_ GE102.out) | exact HB.out)⟩
       ·rw [if_neg c30] at H
        have c30b0 : (a0_0 == 2) = false := beq_eq_false_iff_ne.mpr c30
        have c30b1 : (a0_0 != 2) = true := bne_iff_ne.mpr c30
        obtain rfl := Option.some.inj H
        have hcz32_0 : wc.cell? ⟨gb102, 0, none⟩ = some (.int .i64 a0_0) := (blk_cell BK102.out 0).trans rfl
        have hcz32_1 : wc.cell? ⟨gb102, 1, none⟩ = some (.int .i64 a0_1) := (blk_cell BK102.out 1).trans rfl
        have hcz32_2 : wc.cell? ⟨gb102, 2, none⟩ = some (.int .i64 a0_2) := (blk_cell BK102.out 2).trans rfl
        have hcz32_3 : wc.cell? ⟨gb102, 3, none⟩ = some (.int .i64 a0_3) := (blk_cell BK102.out 3).trans rfl
        have hcz32_4 : wc.cell? ⟨gb102, 4, none⟩ = some (.int .i64 a0_4) := (blk_cell BK102.out 4).trans rfl
        have hcz32_5 : wc.cell? ⟨gb102, 5, none⟩ = some (.int .i64 a0_5) := (blk_cell BK102.out 5).trans rfl
        have hcz32_6 : wc.cell? ⟨gb102, 6, none⟩ = some (.int .i64 a0_6) := (blk_cell BK102.out 6).trans rfl
        have hfz32_0 := blk_frozen BK102.out 0
        have hfz32_1 := blk_frozen BK102.out 1
        have hfz32_2 := blk_frozen BK102.out 2
        have hfz32_3 := blk_frozen BK102.out 3
        have hfz32_4 := blk_frozen BK102.out 4
        have hfz32_5 := blk_frozen BK102.out 5
        have hfz32_6 := blk_frozen BK102.out 6
        go_wp2
        go_ret
        exact ⟨by first | rfl | (simp [errW_none, errW_some] <;> rfl) | (simp [*, errW_none, errW_some] <;> rfl), by repeat (first | (with_reducible first | exact HB.out | apply below_alloc | apply pw_below_drewN | apply below_drew1 | refine below_set ?_ GE102.out) | exact HB.out)⟩
      ·rw [if_neg c29] at H
       have c29b0 : (a1 == 100) = false := beq_eq_false_iff_ne.mpr c29
       have c29b1 : (a1 != 100) = true := bne_iff_ne.mpr c29
       by_cases c33 : a0_0 = 3
       ·rw [if_pos c33] at H
        have c33b0 : (a0_0 == 3) = true := beq_iff_eq.mpr c33
        have c33b1 : (a0_0 != 3) = false := bne_eq_false_iff_eq.mpr c33
        clear c33
        obtain rfl := Option.some.inj H
        have hcz34_0 : wc.cell? ⟨gb102, 0, none⟩ = some (.int .i64 a0_0) := (blk_cell BK102.out 0).trans rfl
        have hcz34_1 : wc.cell? ⟨gb102, 1, none⟩ = some (.int .i64 a0_1) := (blk_cell BK102.out 1).trans rfl
        have hcz34_2 : wc.cell? ⟨gb102, 2, none⟩ = some (.int .i64 a0_2) := (blk_cell BK102.out 2).trans rfl
        have hcz34_3 : wc.cell? ⟨gb102, 3, none⟩ = some (.int .i64 a0_3) := (blk_cell BK102.out 3).trans rfl
        have hcz34_4 : wc.cell? ⟨gb102, 4, none⟩ = some (.int .i64 a0_4) := (blk_cell BK102.out 4).trans rfl
        have hcz34_5 : wc.cell? ⟨gb102, 5, none⟩ = some (.int .i64 a0_5) := (blk_cell BK102.out 5).trans rfl
        have hcz34_6 : wc.cell? ⟨gb102, 6, none⟩ = some (.int .i64 a0_6) := (blk_cell BK102.out 6).trans rfl
        have hfz34_0 := blk_frozen BK102.out 0
        have hfz34_1 := blk_frozen BK102.out 1
        have hfz34_2 := blk_frozen BK102.out 2
        have hfz34_3 := blk_frozen BK102.out 3
        have hfz34_4 := blk_frozen BK102.out 4
        have hfz34_5 := blk_frozen BK102.out 5
        have hfz34_6 := blk_frozen BK102.out 6
        go_wp2
        go_ret
        exact ⟨by first | rfl | (simp [errW_none, errW_some] <;> rfl) | (simp [*, errW_none, errW_some] <;> rfl), by repeat (first | (with_reducible first | exact HB.out | apply below_alloc | apply pw_below_drewN | apply below_drew1 | refine below_set ?_ GE102.out) | exact HB.out)⟩
       ·rw [if_neg c33] at H
        have c33b0 : (a0_0 == 3) = false := beq_eq_false_iff_ne.mpr c33
        have c33b1 : (a0_0 != 3) = true := bne_iff_ne.mpr c33
        by_cases c35 : a0_0 = 5
        ·rw [if_pos c35] at H
         have c35b0 : (a0_0 == 5) = true := beq_iff_eq.mpr c35
         have c35b1 : (a0_0 != 5) = false := bne_eq_false_iff_eq.mpr c35
         clear c35
         obtain rfl := Option.some.inj H
         have hcz36_0 : wc.cell? ⟨gb102, 0, none⟩ = some (.int .i64 a0_0) := (blk_cell BK102.out 0).trans rfl
         have hcz36_1 : wc.cell? ⟨gb102, 1, none⟩ = some (.int .i64 a0_1) := (blk_cell BK102.out 1).trans rfl
         have hcz36_2 : wc.cell? ⟨gb102, 2, none⟩ = some (.int .i64 a0_2) := (blk_cell BK102.out 2).trans rfl
         have hcz36_3 : wc.cell? ⟨gb102, 3, none⟩ = some (.int .i64 a0_3) := (blk_cell BK102.out 3).trans rfl
         have hcz36_4 : wc.cell? ⟨gb102, 4, none⟩ = some (.int .i64 a0_4) := (blk_cell BK102.out 4).trans rfl
         have hcz36_5 : wc.cell? ⟨gb102, 5, none⟩ = some (.int .i64 a0_5) := (blk_cell BK102.out 5).trans rfl
         have hcz36_6 : wc.cell? ⟨gb102, 6, none⟩ = some (.int .i64 a0_6) := (blk_cell BK102.out 6).trans rfl
         have hfz36_0 := blk_frozen BK102.out 0
         have hfz36_1 := blk_frozen BK102.out 1
         have hfz36_2 := blk_frozen BK102.out 2
         have hfz36_3 := blk_frozen BK102.out 3
         have hfz36_4 := blk_frozen BK102.out 4
         have hfz36_5 := blk_frozen BK102.out 5
         have hfz36_6 := blk_frozen BK102.out 6
         go_wp2
         go_ret
         exact ⟨by first | rfl | (simp [errW_none, errW_some] <;> rfl) | (simp [*, errW_none, errW_some] <;> rfl), by repeat (first | (with_reducible first | exact HB.out | apply below_alloc | apply pw_below_drewN | apply below_drew1 | refine below_set ?_ GE102.out) | exact HB.out)⟩
        ·rw [if_neg c35] at H
         have c35b0 : (a0_0 == 5) = false := beq_eq_false_iff_ne.mpr c35
         have c35b1 : (a0_0 != 5) = true := bne_iff_ne.mpr c35
         obtain rfl := Option.some.inj H
         have hcz37_0 : wc.cell? ⟨gb102, 0, none⟩ = some (.int .i64 a0_0) := (blk_cell BK102.out 0).trans rfl
         have hcz37_1 : wc.cell? ⟨gb102, 1, none⟩ = some (.int .i64 a0_1) := (blk_cell BK102.out 1).trans rfl
         have hcz37_2 : wc.cell? ⟨gb102, 2, none⟩ = some (.int .i64 a0_2) := (blk_cell BK102.out 2).trans rfl
         have hcz37_3 : wc.cell? ⟨gb102, 3, none⟩ = some (.int .i64 a0_3) := (blk_cell BK102.out 3).trans rfl
         have hcz37_4 : wc.cell? ⟨gb102, 4, none⟩ = some (.int .i64 a0_4) := (blk_cell BK102.out 4).trans rfl
         have hcz37_5 : wc.cell? ⟨gb102, 5, none⟩ = some (.int .i64 a0_5) := (blk_cell BK102.out 5).trans rfl
         have hcz37_6 : wc.cell? ⟨gb102, 6, none⟩ = some (.int .i64 a0_6) := (blk_cell BK102.out 6).trans rfl
         have hfz37_0 := blk_frozen BK102.out 0
         have hfz37_1 := blk_frozen BK102.out 1
         have hfz37_2 := blk_frozen BK102.out 2
         have hfz37_3 := blk_frozen BK102.out 3
         have hfz37_4 := blk_frozen BK102.out 4
         have hfz37_5 := blk_frozen BK102.out 5
         have hfz37_6 := blk_frozen BK102.out 6
         go_wp2
         go_ret
         exact ⟨by first | rfl | (simp [errW_none, errW_some] <;> rfl) | (simp [*, errW_none, errW_some] <;> rfl), by repeat (first | (with_reducible first | exact HB.out | apply below_alloc | apply pw_below_drewN | apply below_drew1 | refine below_set ?_ GE102.out) | exact HB.out)⟩
end Go.Proofs.YthljanmfanppdaaDoor.KLw
end
