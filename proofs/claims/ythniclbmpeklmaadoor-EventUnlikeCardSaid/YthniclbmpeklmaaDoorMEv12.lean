/- What is proved: each Go function named here comes to what the plain function of its name comes to, whatever the memory; no conditions. Written by a program of this session (kp.py) over the kit's print. -/
import Derived.Test.YthniclbmpeklmaaDoorWEqStruct
import Derived.Deep.RegionWith
import Derived.Deep.RegionHeld3
import Derived.Test.YthniclbmpeklmaaDoorProg
import Derived.Below
import Derived.Deep.Draws
import Derived.Deep.AppendLies
import Derived.Maps.AppendAt
import Derived.OwnWalk
import Derived.Laws.BytesArg
import Derived.Laws.MakeOwn
import Derived.Laws.OwnMore
import Derived.Deep.OwnRows
import Derived.Tactics
import Derived.Lib.ConvBytes
import Derived.Laws.Slices
import Derived.WalkKit
import Derived.KernelRfl
import Derived.RowKit3
import Derived.Deep.LoopGhost
import Derived.Deep.QuietTactic
import Derived.BigQuiet
import Derived.WideLaws
import Derived.Deep.DeepCutAuto
import Derived.Deep.CutBlock
import Derived.Laws.Rows
import Derived.Lib.AppendStr
import Derived.ArgAppend
import Derived.Laws.IdiomCopy
import Derived.OrdersHeld
import Derived.Laws.BitsLemmas
import Derived.RowKit
import Derived.Test.YthniclbmpeklmaaDoorWWords
import Derived.Test.YthniclbmpeklmaaDoorWLast
import Derived.Test.YthniclbmpeklmaaDoorWTab
import Derived.Test.YthniclbmpeklmaaDoorWFour
import Derived.Test.YthniclbmpeklmaaDoorWQPut
import Derived.Test.YthniclbmpeklmaaDoorWApart
import Derived.Test.YthniclbmpeklmaaDoorWArr
import Derived.Test.YthniclbmpeklmaaDoorWZeros
import Derived.Test.YthniclbmpeklmaaDoorWFoot
import Derived.Test.YthniclbmpeklmaaDoorWKept
import Derived.Test.YthniclbmpeklmaaDoorWShare
import Derived.Test.YthniclbmpeklmaaDoorWN
import Derived.Test.YthniclbmpeklmaaDoorWFootNe
import Derived.Test.YthniclbmpeklmaaDoorWAt
import Derived.Test.YthniclbmpeklmaaDoorWRepsOne
import Derived.Test.YthniclbmpeklmaaDoorWInv
import Derived.Test.YthniclbmpeklmaaDoorWInvWords
import Derived.Test.YthniclbmpeklmaaDoorWGuard
import Derived.Test.YthniclbmpeklmaaDoorWNEv
import Derived.Test.YthniclbmpeklmaaDoorWMore
import Derived.Test.YthniclbmpeklmaaDoorMEv4
import Derived.Test.YthniclbmpeklmaaDoorMEv8
import Derived.Test.YthniclbmpeklmaaDoorMEv10
import Derived.Test.YthniclbmpeklmaaDoorMEv11
namespace Go.Proofs.YthniclbmpeklmaaDoor.Ev
open Go.RowKit Go.Proofs.YthniclbmpeklmaaDoorW.PrintWords Go.Proofs.YthniclbmpeklmaaDoorW.PrintLast Go.Proofs.YthniclbmpeklmaaDoorW.PrintMore
attribute [local go_sem] max2_int min2_int max_two min_two max_three min_three max_four min_four
set_option linter.unusedVariables false
set_option linter.unusedSimpArgs false
/-- Are the numbers of an event 0 or more? -/
def countedB (k hn hg nn ng t a u : Int) : Bool :=
  (k == 3 || (decide (0 ≤ hn) && decide (0 ≤ hg))) && (decide (0 ≤ nn) && decide (0 ≤ ng) && decide (0 ≤ a) && decide (0 ≤ u) && (if k = 5 then decide (-1 ≤ t) else decide (0 ≤ t)))

theorem counted_eq (k hn hg nn ng t a u m m1 m2 m3 : Int) (e : (if hg < hn then hg else hn) = m) (e1 : (if ng < nn then ng else nn) = m1) (e2 : (if a < m1 then a else m1) = m2) (e3 : (if u < m2 then u else m2) = m3) :
    countedB k hn hg nn ng t a u = ((k == 3 || decide (0 ≤ m)) && (decide (0 ≤ m3) && (if k = 5 then decide (-1 ≤ t) else decide (0 ≤ t)))) := by
  have h1 : decide (0 ≤ m) = (decide (0 ≤ hn) && decide (0 ≤ hg)) := by
    rw [Bool.eq_iff_iff]
    simp
    split at e <;> omega
  have h3 : decide (0 ≤ m3) = (decide (0 ≤ nn) && decide (0 ≤ ng) && decide (0 ≤ a) && decide (0 ≤ u)) := by
    rw [Bool.eq_iff_iff]
    simp
    split at e1 <;> split at e2 <;> split at e3 <;> omega
  rw [h1, h3, countedB]

set_option maxHeartbeats 4000000 in
set_option maxRecDepth 100000 in
theorem counted_any (k wk op hn hg nn ng t a u : Int) (y : Bool) (er : Int) (w : World) :
    Calls Tryd.prog 20 #[.agg (evC k wk op hn hg nn ng t a u y er)] w fun e w' => e = .returned (.bool (countedB k hn hg nn ng t a u)) ∧ Below w.heap.size w w' := by
  have hu := Tryd.underlying31
  have HB := Aside0.mk (Below.refl w.heap.size w)
  obtain ⟨m, e⟩ : ∃ m, (if hg < hn then hg else hn) = m := ⟨_, rfl⟩
  obtain ⟨m1, e1⟩ : ∃ m, (if ng < nn then ng else nn) = m := ⟨_, rfl⟩
  obtain ⟨m2, e2⟩ : ∃ m, (if a < m1 then a else m1) = m := ⟨_, rfl⟩
  obtain ⟨m3, e3⟩ : ∃ m, (if u < m2 then u else m2) = m := ⟨_, rfl⟩
  rw [counted_eq k hn hg nn ng t a u m m1 m2 m3 e e1 e2 e3]
  by_cases k3 : k = 3
  · subst k3
    go_enter Tryd.func20, Tryd.ntmps20
    go_wp2
    all_goals
      go_ret
      exact ⟨by simp [*] <;> omega, by repeat (first | exact HB.out | apply below_alloc | apply pw_below_drewN)⟩
  · have b3 : (k != 3) = true := bne_iff_ne.2 k3
    have b3' : (k == 3) = false := beq_eq_false_iff_ne.2 k3
    by_cases k5 : k = 5
    · subst k5
      clear k3
      go_enter Tryd.func20, Tryd.ntmps20
      go_wp2
      all_goals
        go_ret
        exact ⟨by simp [*] <;> omega, by repeat (first | exact HB.out | apply below_alloc | apply pw_below_drewN)⟩
    · have b5 : (k == 5) = false := beq_eq_false_iff_ne.2 k5
      rw [if_neg k5]
      clear k3 k5
      go_enter Tryd.func20, Tryd.ntmps20
      go_wp2
      all_goals
        go_ret
        exact ⟨by simp [*] <;> omega, by repeat (first | exact HB.out | apply below_alloc | apply pw_below_drewN)⟩
end Go.Proofs.YthniclbmpeklmaaDoor.Ev
namespace Go.Proofs.YthniclbmpeklmaaDoor.Ev
open Go.RowKit Go.Proofs.YthniclbmpeklmaaDoorW.PrintWords Go.Proofs.YthniclbmpeklmaaDoorW.PrintLast Go.Proofs.YthniclbmpeklmaaDoorW.PrintMore
set_option linter.unusedVariables false
set_option linter.unusedSimpArgs false
/-- What is left of a field, when those of a set are taken away. -/
def zb (f b x : Int) : Int := if bits BinOp.and IntKind.i64 f b = 0 then x else 0
def zy (f : Int) (y : Bool) : Bool := y && bits BinOp.and IntKind.i64 f 32 == 0
def fset : List Int := [0, 1, 4, 5, 9, 21, 28, 32, 33, 64, 65, 66, 70, 71]
theorem bare_any (k wk op hn hg nn ng t a u : Int) (y : Bool) (er : Int) (f : Int) (hf : f ∈ fset) (w : World) :
    Calls Tryd.prog 21 #[.agg (evC k wk op hn hg nn ng t a u y er), .int .i64 f] w fun e w' => e = .returned (.agg (evC k wk op (zb f 1 hn) (zb f 1 hg) (zb f 2 nn) (zb f 2 ng) (zb f 4 t) (zb f 8 a) (zb f 16 u) (zy f y) (zb f 64 er))) ∧ Below w.heap.size w w' := by
  simp only [fset, List.mem_cons, List.not_mem_nil, or_false] at hf
  rcases hf with rfl | rfl | rfl | rfl | rfl | rfl | rfl | rfl | rfl | rfl | rfl | rfl | rfl | rfl
  · simpa only [zb, zy, show bits BinOp.and IntKind.i64 0 1 = 0 from by decide, show bits BinOp.and IntKind.i64 0 2 = 0 from by decide, show bits BinOp.and IntKind.i64 0 4 = 0 from by decide, show bits BinOp.and IntKind.i64 0 8 = 0 from by decide, show bits BinOp.and IntKind.i64 0 16 = 0 from by decide, show bits BinOp.and IntKind.i64 0 32 = 0 from by decide, show bits BinOp.and IntKind.i64 0 64 = 0 from by decide, if_true, show ¬ ((1 : Int) = 0) from by decide, show ¬ ((2 : Int) = 0) from by decide, show ¬ ((4 : Int) = 0) from by decide, show ¬ ((8 : Int) = 0) from by decide, show ¬ ((16 : Int) = 0) from by decide, show ¬ ((64 : Int) = 0) from by decide, if_false, show ((32 : Int) == 0) = false from by decide, show ((0 : Int) == 0) = true from by decide, Bool.and_true, Bool.and_false] using bare_0 k wk op hn hg nn ng t a u y er w
  · simpa only [zb, zy, show bits BinOp.and IntKind.i64 1 1 = 1 from by decide, show bits BinOp.and IntKind.i64 1 2 = 0 from by decide, show bits BinOp.and IntKind.i64 1 4 = 0 from by decide, show bits BinOp.and IntKind.i64 1 8 = 0 from by decide, show bits BinOp.and IntKind.i64 1 16 = 0 from by decide, show bits BinOp.and IntKind.i64 1 32 = 0 from by decide, show bits BinOp.and IntKind.i64 1 64 = 0 from by decide, if_true, show ¬ ((1 : Int) = 0) from by decide, show ¬ ((2 : Int) = 0) from by decide, show ¬ ((4 : Int) = 0) from by decide, show ¬ ((8 : Int) = 0) from by decide, show ¬ ((16 : Int) = 0) from by decide, show ¬ ((64 : Int) = 0) from by decide, if_false, show ((32 : Int) == 0) = false from by decide, show ((0 : Int) == 0) = true from by decide, Bool.and_true, Bool.and_false] using bare_1 k wk op hn hg nn ng t a u y er w
  · simpa only [zb, zy, show bits BinOp.and IntKind.i64 4 1 = 0 from by decide, show bits BinOp.and IntKind.i64 4 2 = 0 from by decide, show bits BinOp.and IntKind.i64 4 4 = 4 from by decide, show bits BinOp.and IntKind.i64 4 8 = 0 from by decide, show bits BinOp.and IntKind.i64 4 16 = 0 from by decide, show bits BinOp.and IntKind.i64 4 32 = 0 from by decide, show bits BinOp.and IntKind.i64 4 64 = 0 from by decide, if_true, show ¬ ((1 : Int) = 0) from by decide, show ¬ ((2 : Int) = 0) from by decide, show ¬ ((4 : Int) = 0) from by decide, show ¬ ((8 : Int) = 0) from by decide, show ¬ ((16 : Int) = 0) from by decide, show ¬ ((64 : Int) = 0) from by decide, if_false, show ((32 : Int) == 0) = false from by decide, show ((0 : Int) == 0) = true from by decide, Bool.and_true, Bool.and_false] using bare_4 k wk op hn hg nn ng t a u y er w
  · simpa only [zb, zy, show bits BinOp.and IntKind.i64 5 1 = 1 from by decide, show bits BinOp.and IntKind.i64 5 2 = 0 from by decide, show bits BinOp.and IntKind.i64 5 4 = 4 from by decide, show bits BinOp.and IntKind.i64 5 8 = 0 from by decide, show bits BinOp.and IntKind.i64 5 16 = 0 from by decide, show bits BinOp.and IntKind.i64 5 32 = 0 from by decide, show bits BinOp.and IntKind.i64 5 64 = 0 from by decide, if_true, show ¬ ((1 : Int) = 0) from by decide, show ¬ ((2 : Int) = 0) from by decide, show ¬ ((4 : Int) = 0) from by decide, show ¬ ((8 : Int) = 0) from by decide, show ¬ ((16 : Int) = 0) from by decide, show ¬ ((64 : Int) = 0) from by decide, if_false, show ((32 : Int) == 0) = false from by decide, show ((0 : Int) == 0) = true from by decide, Bool.and_true, Bool.and_false] using bare_5 k wk op hn hg nn ng t a u y er w
  · simpa only [zb, zy, show bits BinOp.and IntKind.i64 9 1 = 1 from by decide, show bits BinOp.and IntKind.i64 9 2 = 0 from by decide, show bits BinOp.and IntKind.i64 9 4 = 0 from by decide, show bits BinOp.and IntKind.i64 9 8 = 8 from by decide, show bits BinOp.and IntKind.i64 9 16 = 0 from by decide, show bits BinOp.and IntKind.i64 9 32 = 0 from by decide, show bits BinOp.and IntKind.i64 9 64 = 0 from by decide, if_true, show ¬ ((1 : Int) = 0) from by decide, show ¬ ((2 : Int) = 0) from by decide, show ¬ ((4 : Int) = 0) from by decide, show ¬ ((8 : Int) = 0) from by decide, show ¬ ((16 : Int) = 0) from by decide, show ¬ ((64 : Int) = 0) from by decide, if_false, show ((32 : Int) == 0) = false from by decide, show ((0 : Int) == 0) = true from by decide, Bool.and_true, Bool.and_false] using bare_9 k wk op hn hg nn ng t a u y er w
  · simpa only [zb, zy, show bits BinOp.and IntKind.i64 21 1 = 1 from by decide, show bits BinOp.and IntKind.i64 21 2 = 0 from by decide, show bits BinOp.and IntKind.i64 21 4 = 4 from by decide, show bits BinOp.and IntKind.i64 21 8 = 0 from by decide, show bits BinOp.and IntKind.i64 21 16 = 16 from by decide, show bits BinOp.and IntKind.i64 21 32 = 0 from by decide, show bits BinOp.and IntKind.i64 21 64 = 0 from by decide, if_true, show ¬ ((1 : Int) = 0) from by decide, show ¬ ((2 : Int) = 0) from by decide, show ¬ ((4 : Int) = 0) from by decide, show ¬ ((8 : Int) = 0) from by decide, show ¬ ((16 : Int) = 0) from by decide, show ¬ ((64 : Int) = 0) from by decide, if_false, show ((32 : Int) == 0) = false from by decide, show ((0 : Int) == 0) = true from by decide, Bool.and_true, Bool.and_false] using bare_21 k wk op hn hg nn ng t a u y er w
  · simpa only [zb, zy, show bits BinOp.and IntKind.i64 28 1 = 0 from by decide, show bits BinOp.and IntKind.i64 28 2 = 0 from by decide, show bits BinOp.and IntKind.i64 28 4 = 4 from by decide, show bits BinOp.and IntKind.i64 28 8 = 8 from by decide, show bits BinOp.and IntKind.i64 28 16 = 16 from by decide, show bits BinOp.and IntKind.i64 28 32 = 0 from by decide, show bits BinOp.and IntKind.i64 28 64 = 0 from by decide, if_true, show ¬ ((1 : Int) = 0) from by decide, show ¬ ((2 : Int) = 0) from by decide, show ¬ ((4 : Int) = 0) from by decide, show ¬ ((8 : Int) = 0) from by decide, show ¬ ((16 : Int) = 0) from by decide, show ¬ ((64 : Int) = 0) from by decide, if_false, show ((32 : Int) == 0) = false from by decide, show ((0 : Int) == 0) = true from by decide, Bool.and_true, Bool.and_false] using bare_28 k wk op hn hg nn ng t a u y er w
  · simpa only [zb, zy, show bits BinOp.and IntKind.i64 32 1 = 0 from by decide, show bits BinOp.and IntKind.i64 32 2 = 0 from by decide, show bits BinOp.and IntKind.i64 32 4 = 0 from by decide, show bits BinOp.and IntKind.i64 32 8 = 0 from by decide, show bits BinOp.and IntKind.i64 32 16 = 0 from by decide, show bits BinOp.and IntKind.i64 32 32 = 32 from by decide, show bits BinOp.and IntKind.i64 32 64 = 0 from by decide, if_true, show ¬ ((1 : Int) = 0) from by decide, show ¬ ((2 : Int) = 0) from by decide, show ¬ ((4 : Int) = 0) from by decide, show ¬ ((8 : Int) = 0) from by decide, show ¬ ((16 : Int) = 0) from by decide, show ¬ ((64 : Int) = 0) from by decide, if_false, show ((32 : Int) == 0) = false from by decide, show ((0 : Int) == 0) = true from by decide, Bool.and_true, Bool.and_false] using bare_32 k wk op hn hg nn ng t a u y er w
  · simpa only [zb, zy, show bits BinOp.and IntKind.i64 33 1 = 1 from by decide, show bits BinOp.and IntKind.i64 33 2 = 0 from by decide, show bits BinOp.and IntKind.i64 33 4 = 0 from by decide, show bits BinOp.and IntKind.i64 33 8 = 0 from by decide, show bits BinOp.and IntKind.i64 33 16 = 0 from by decide, show bits BinOp.and IntKind.i64 33 32 = 32 from by decide, show bits BinOp.and IntKind.i64 33 64 = 0 from by decide, if_true, show ¬ ((1 : Int) = 0) from by decide, show ¬ ((2 : Int) = 0) from by decide, show ¬ ((4 : Int) = 0) from by decide, show ¬ ((8 : Int) = 0) from by decide, show ¬ ((16 : Int) = 0) from by decide, show ¬ ((64 : Int) = 0) from by decide, if_false, show ((32 : Int) == 0) = false from by decide, show ((0 : Int) == 0) = true from by decide, Bool.and_true, Bool.and_false] using bare_33 k wk op hn hg nn ng t a u y er w
  · simpa only [zb, zy, show bits BinOp.and IntKind.i64 64 1 = 0 from by decide, show bits BinOp.and IntKind.i64 64 2 = 0 from by decide, show bits BinOp.and IntKind.i64 64 4 = 0 from by decide, show bits BinOp.and IntKind.i64 64 8 = 0 from by decide, show bits BinOp.and IntKind.i64 64 16 = 0 from by decide, show bits BinOp.and IntKind.i64 64 32 = 0 from by decide, show bits BinOp.and IntKind.i64 64 64 = 64 from by decide, if_true, show ¬ ((1 : Int) = 0) from by decide, show ¬ ((2 : Int) = 0) from by decide, show ¬ ((4 : Int) = 0) from by decide, show ¬ ((8 : Int) = 0) from by decide, show ¬ ((16 : Int) = 0) from by decide, show ¬ ((64 : Int) = 0) from by decide, if_false, show ((32 : Int) == 0) = false from by decide, show ((0 : Int) == 0) = true from by decide, Bool.and_true, Bool.and_false] using bare_64 k wk op hn hg nn ng t a u y er w
  · simpa only [zb, zy, show bits BinOp.and IntKind.i64 65 1 = 1 from by decide, show bits BinOp.and IntKind.i64 65 2 = 0 from by decide, show bits BinOp.and IntKind.i64 65 4 = 0 from by decide, show bits BinOp.and IntKind.i64 65 8 = 0 from by decide, show bits BinOp.and IntKind.i64 65 16 = 0 from by decide, show bits BinOp.and IntKind.i64 65 32 = 0 from by decide, show bits BinOp.and IntKind.i64 65 64 = 64 from by decide, if_true, show ¬ ((1 : Int) = 0) from by decide, show ¬ ((2 : Int) = 0) from by decide, show ¬ ((4 : Int) = 0) from by decide, show ¬ ((8 : Int) = 0) from by decide, show ¬ ((16 : Int) = 0) from by decide, show ¬ ((64 : Int) = 0) from by decide, if_false, show ((32 : Int) == 0) = false from by decide, show ((0 : Int) == 0) = true from by decide, Bool.and_true, Bool.and_false] using bare_65 k wk op hn hg nn ng t a u y er w
  · simpa only [zb, zy, show bits BinOp.and IntKind.i64 66 1 = 0 from by decide, show bits BinOp.and IntKind.i64 66 2 = 2 from by decide, show bits BinOp.and IntKind.i64 66 4 = 0 from by decide, show bits BinOp.and IntKind.i64 66 8 = 0 from by decide, show bits BinOp.and IntKind.i64 66 16 = 0 from by decide, show bits BinOp.and IntKind.i64 66 32 = 0 from by decide, show bits BinOp.and IntKind.i64 66 64 = 64 from by decide, if_true, show ¬ ((1 : Int) = 0) from by decide, show ¬ ((2 : Int) = 0) from by decide, show ¬ ((4 : Int) = 0) from by decide, show ¬ ((8 : Int) = 0) from by decide, show ¬ ((16 : Int) = 0) from by decide, show ¬ ((64 : Int) = 0) from by decide, if_false, show ((32 : Int) == 0) = false from by decide, show ((0 : Int) == 0) = true from by decide, Bool.and_true, Bool.and_false] using bare_66 k wk op hn hg nn ng t a u y er w
  · simpa only [zb, zy, show bits BinOp.and IntKind.i64 70 1 = 0 from by decide, show bits BinOp.and IntKind.i64 70 2 = 2 from by decide, show bits BinOp.and IntKind.i64 70 4 = 4 from by decide, show bits BinOp.and IntKind.i64 70 8 = 0 from by decide, show bits BinOp.and IntKind.i64 70 16 = 0 from by decide, show bits BinOp.and IntKind.i64 70 32 = 0 from by decide, show bits BinOp.and IntKind.i64 70 64 = 64 from by decide, if_true, show ¬ ((1 : Int) = 0) from by decide, show ¬ ((2 : Int) = 0) from by decide, show ¬ ((4 : Int) = 0) from by decide, show ¬ ((8 : Int) = 0) from by decide, show ¬ ((16 : Int) = 0) from by decide, show ¬ ((64 : Int) = 0) from by decide, if_false, show ((32 : Int) == 0) = false from by decide, show ((0 : Int) == 0) = true from by decide, Bool.and_true, Bool.and_false] using bare_70 k wk op hn hg nn ng t a u y er w
  · simpa only [zb, zy, show bits BinOp.and IntKind.i64 71 1 = 1 from by decide, show bits BinOp.and IntKind.i64 71 2 = 2 from by decide, show bits BinOp.and IntKind.i64 71 4 = 4 from by decide, show bits BinOp.and IntKind.i64 71 8 = 0 from by decide, show bits BinOp.and IntKind.i64 71 16 = 0 from by decide, show bits BinOp.and IntKind.i64 71 32 = 0 from by decide, show bits BinOp.and IntKind.i64 71 64 = 64 from by decide, if_true, show ¬ ((1 : Int) = 0) from by decide, show ¬ ((2 : Int) = 0) from by decide, show ¬ ((4 : Int) = 0) from by decide, show ¬ ((8 : Int) = 0) from by decide, show ¬ ((16 : Int) = 0) from by decide, show ¬ ((64 : Int) = 0) from by decide, if_false, show ((32 : Int) == 0) = false from by decide, show ((0 : Int) == 0) = true from by decide, Bool.and_true, Bool.and_false] using bare_71 k wk op hn hg nn ng t a u y er w

theorem pick_in (L : List Int) (op : Int) : (pickL L op).1 = 0 ∨ (pickL L op).1 ∈ L := by
  unfold pickL
  split
  · exact .inl rfl
  · right
    simp only [List.getD_eq_getElem?_getD]
    rename_i h
    have : op.toNat < L.length := by omega
    rw [List.getElem?_eq_getElem this]
    exact List.getElem_mem _
theorem fields_in (k wk op er : Int) : (fieldsF k wk op er).1 ∈ fset := by
  unfold fieldsF
  have p2 := pick_in [0, 28, 1, 5, 9, 0, 0, 0] op
  have p3 := pick_in [0, 70, 33, 71, 65] op
  have p5 := pick_in [0, 66, 32, 66, 64, 0, 4, 4] op
  generalize pickL [0, 28, 1, 5, 9, 0, 0, 0] op = q2 at *
  generalize pickL [0, 70, 33, 71, 65] op = q3 at *
  generalize pickL [0, 66, 32, 66, 64, 0, 4, 4] op = q5 at *
  split
  · show (4 : Int) ∈ fset
    decide
  split
  · show (21 : Int) ∈ fset
    decide
  split
  · simp only [List.mem_cons, List.not_mem_nil, or_false] at p2
    rcases p2 with h | h | h | h | h | h | h | h | h <;> rw [h] <;> decide
  split
  · simp only [List.mem_cons, List.not_mem_nil, or_false] at p3
    rcases p3 with h | h | h | h | h | h <;> rw [h] <;> split <;> dsimp only <;> decide
  split
  · simp only [List.mem_cons, List.not_mem_nil, or_false] at p5
    rcases p5 with h | h | h | h | h | h | h | h | h <;> rw [h] <;> split <;> dsimp only <;> decide
  · decide
/-! '==' of events as one Bool: written by the kit's own printer. -/
theorem eqHa (d : Nat) (w : World) (x0 y0 : Int) (x1 y1 : Int) :
    (Op.equalIn (d + 2) 28 (.agg #[.int .i64 x0, .int .i64 x1]) (.agg #[.int .i64 y0, .int .i64 y1])).run Tryd.prog w = .ok (x0 == y0 && (x1 == y1)) w := by
  refine eqA_of Tryd.underlying28 (by kernel_rfl) ?_
  refine eqf_cons (by rfl) (by go_simp; rfl) (by go_simp; rfl) (by go_simp) ?_
  exact eqf_last (by rfl) (by go_simp; rfl) (by go_simp; rfl) (by go_simp)
theorem eqEv (d : Nat) (w : World) (x0 y0 : Int) (x1 y1 : Int) (x2 y2 : Int) (x3 y3 : Int) (x4 y4 : Int) (x5 y5 : Int) (x6 y6 : Int) (x7 y7 : Int) (x8 y8 : Int) (x9 y9 : Int) (x10 y10 : Bool) (x11 y11 : Int) :
    (Op.equalIn (d + 3) 31 (.agg #[.int .i64 x0, .int .i64 x1, .int .i64 x2, .int .i64 x3, .int .i64 x4, .int .i64 x5, .int .i64 x6, .int .i64 x7, .int .i64 x8, .int .i64 x9, .bool x10, .int .i64 x11]) (.agg #[.int .i64 y0, .int .i64 y1, .int .i64 y2, .int .i64 y3, .int .i64 y4, .int .i64 y5, .int .i64 y6, .int .i64 y7, .int .i64 y8, .int .i64 y9, .bool y10, .int .i64 y11])).run Tryd.prog w = .ok (x0 == y0 && (x1 == y1 && (x2 == y2 && ((x3 == y3 && (x4 == y4)) && ((x5 == y5 && (x6 == y6)) && (x7 == y7 && (x8 == y8 && (x9 == y9 && (x10 == y10 && (x11 == y11)))))))))) w := by
  refine eqA_of Tryd.underlying31 (by kernel_rfl) ?_
  refine eqf_cons (by rfl) (by go_simp; rfl) (by go_simp; rfl) (by go_simp) ?_
  refine eqf_cons (by rfl) (by go_simp; rfl) (by go_simp; rfl) (by go_simp) ?_
  refine eqf_cons (by rfl) (by go_simp; rfl) (by go_simp; rfl) (by go_simp) ?_
  refine eqf_cons (by rfl) (by go_simp) (by go_simp) (eqHa (d + 0) w _ _ _ _) ?_
  refine eqf_cons (by rfl) (by go_simp) (by go_simp) (eqHa (d + 0) w _ _ _ _) ?_
  refine eqf_cons (by rfl) (by go_simp; rfl) (by go_simp; rfl) (by go_simp) ?_
  refine eqf_cons (by rfl) (by go_simp; rfl) (by go_simp; rfl) (by go_simp) ?_
  refine eqf_cons (by rfl) (by go_simp; rfl) (by go_simp; rfl) (by go_simp) ?_
  refine eqf_cons (by rfl) (by go_simp; rfl) (by go_simp; rfl) (by go_simp) ?_
  exact eqf_last (by rfl) (by go_simp; rfl) (by go_simp; rfl) (by go_simp)
end Go.Proofs.YthniclbmpeklmaaDoor.Ev
namespace Go.Proofs.YthniclbmpeklmaaDoor.Ev
open Go.RowKit Go.Proofs.YthniclbmpeklmaaDoorW.PrintWords Go.Proofs.YthniclbmpeklmaaDoorW.PrintLast Go.Proofs.YthniclbmpeklmaaDoorW.PrintMore
set_option linter.unusedVariables false
set_option linter.unusedSimpArgs false

theorem dlt {x : Int} (h : 0 ≤ x) : decide (x < 0) = false := decide_eq_false (by omega)
attribute [local go_sem high] eqEv eqHa
set_option maxHeartbeats 4000000 in
set_option maxRecDepth 100000 in
theorem right_walk (k wk op hn hg nn ng t a u : Int) (y : Bool) (er : Int) (f : Int) (ok q : Bool) (x1 x2 x3 x4 x5 x6 x7 : Int) (x8 : Bool) (x9 : Int)
    (CF : Aside0 (∀ W, Calls Tryd.prog 19 #[.agg (evC k wk op hn hg nn ng t a u y er)] W fun e w' => e = .returned (.tuple #[.int .i64 f, .bool ok]) ∧ Below W.heap.size W w'))
    (CC : Aside0 (∀ W, Calls Tryd.prog 20 #[.agg (evC k wk op hn hg nn ng t a u y er)] W fun e w' => e = .returned (.bool q) ∧ Below W.heap.size W w'))
    (CB : Aside0 (∀ W, Calls Tryd.prog 21 #[.agg (evC k wk op hn hg nn ng t a u y er), .int .i64 f] W fun e w' => e = .returned (.agg (evC k wk op x1 x2 x3 x4 x5 x6 x7 x8 x9)) ∧ Below W.heap.size W w')) (w : World) :
    Calls Tryd.prog 8 #[.agg (evC k wk op hn hg nn ng t a u y er)] w fun e w' => e = .returned (.bool (ok && (!decide (wk < 0) && (!decide (er < 0) && ((k == 2) || q))) && (x1 == 0 && x2 == 0 && x3 == 0 && x4 == 0 && x5 == 0 && x6 == 0 && x7 == 0 && !x8 && x9 == 0))) ∧ Below w.heap.size w w' := by
  have hu := Tryd.underlying31
  have hu2 := Tryd.underlying28
  by_cases k2 : k = 2
  · subst k2
    have HB := Aside0.mk (below_alloc (Below.refl w.heap.size w) (.cells (evC 2 wk op hn hg nn ng t a u y er) 31))
    have HO := Aside0.mk (heap_alloc_new w (.cells (evC 2 wk op hn hg nn ng t a u y er) 31))
    go_enter Tryd.func8, Tryd.ntmps8
    go_wp2_with (first | (go_at_call 19; (with_reducible refine (CF.out _).mono ?_); rintro e w1 ⟨rfl, hb⟩; have n0 := Aside0.mk (below_step HB.out hb); have n1 := Aside0.mk ((hb.block _ (by simp)).trans HO.out); clear HB HO hb; have HB := n0; have HO := n1; clear n0 n1; have hc := fun i => blk_cell HO.out i; have hz := Aside0.mk (blk_lt HO.out)) | (go_at_call 20; (with_reducible refine (CC.out _).mono ?_); rintro e w1 ⟨rfl, hb⟩; have n0 := Aside0.mk (below_step HB.out hb); have n1 := Aside0.mk ((hb.block _ hz.out).trans HO.out); clear hc; clear HB HO hb; have HB := n0; have HO := n1; clear n0 n1; have hc := fun i => blk_cell HO.out i))
    all_goals first
      | (go_ret; exact ⟨by first | (simp [*, Bool.and_assoc, dlt]; done) | (simp_all [Bool.and_assoc, dlt]; done) | (simp [*, Bool.and_assoc, dlt]; rename_i h9; intro hq; exfalso; rcases h9 with (h9 | h9) | h9; omega; omega; (rw [hq] at h9; cases h9)), HB.out⟩)
      | (go_region_held3 (fun w' => ∀ i, w'.cell? ⟨w.heap.size, i, none⟩ = (evC 2 wk op hn hg nn ng t a u y er)[i]?) ((intro i; exact blk_cell HO.out i)) ((go_at_call 21; (with_reducible refine (CB.out _).mono ?_); rintro e w2 ⟨rfl, hb⟩; have n0 := Aside0.mk (below_step (Below.drew HB.out) hb); have n1 := Aside0.mk ((hb.block _ (by exact blk_lt HO.out)).trans (by exact HO.out)); clear hc; clear HB HO hb; have HB := n0; have HO := n1; clear n0 n1))
         go_wp2
         go_ret
         exact ⟨by first | (simp [*, Bool.and_assoc, dlt]; done) | (simp_all [Bool.and_assoc, dlt]; done) | (simp [*, Bool.and_assoc, dlt]; rename_i h9; intro hq; exfalso; rcases h9 with (h9 | h9) | h9; omega; omega; (rw [hq] at h9; cases h9)), HB.out⟩)
  · have b2 : (k == 2) = false := beq_eq_false_iff_ne.2 k2
    have b2' : (k != 2) = true := bne_iff_ne.2 k2
    clear k2
    have HB := Aside0.mk (below_alloc (Below.refl w.heap.size w) (.cells (evC k wk op hn hg nn ng t a u y er) 31))
    have HO := Aside0.mk (heap_alloc_new w (.cells (evC k wk op hn hg nn ng t a u y er) 31))
    go_enter Tryd.func8, Tryd.ntmps8
    go_wp2_with (first | (go_at_call 19; (with_reducible refine (CF.out _).mono ?_); rintro e w1 ⟨rfl, hb⟩; have n0 := Aside0.mk (below_step HB.out hb); have n1 := Aside0.mk ((hb.block _ (by simp)).trans HO.out); clear HB HO hb; have HB := n0; have HO := n1; clear n0 n1; have hc := fun i => blk_cell HO.out i; have hz := Aside0.mk (blk_lt HO.out)) | (go_at_call 20; (with_reducible refine (CC.out _).mono ?_); rintro e w1 ⟨rfl, hb⟩; have n0 := Aside0.mk (below_step HB.out hb); have n1 := Aside0.mk ((hb.block _ hz.out).trans HO.out); clear hc; clear HB HO hb; have HB := n0; have HO := n1; clear n0 n1; have hc := fun i => blk_cell HO.out i))
    all_goals first
      | (go_ret; exact ⟨by first | (simp [*, Bool.and_assoc, dlt]; done) | (simp_all [Bool.and_assoc, dlt]; done) | (simp [*, Bool.and_assoc, dlt]; rename_i h9; intro hq; exfalso; rcases h9 with (h9 | h9) | h9; omega; omega; (rw [hq] at h9; cases h9)), HB.out⟩)
      | (go_region_held3 (fun w' => ∀ i, w'.cell? ⟨w.heap.size, i, none⟩ = (evC k wk op hn hg nn ng t a u y er)[i]?) ((intro i; exact blk_cell HO.out i)) ((go_at_call 21; (with_reducible refine (CB.out _).mono ?_); rintro e w2 ⟨rfl, hb⟩; have n0 := Aside0.mk (below_step (Below.drew HB.out) hb); have n1 := Aside0.mk ((hb.block _ (by exact blk_lt HO.out)).trans (by exact HO.out)); clear hc; clear HB HO hb; have HB := n0; have HO := n1; clear n0 n1))
         go_wp2
         go_ret
         exact ⟨by first | (simp [*, Bool.and_assoc, dlt]; done) | (simp_all [Bool.and_assoc, dlt]; done) | (simp [*, Bool.and_assoc, dlt]; rename_i h9; intro hq; exfalso; rcases h9 with (h9 | h9) | h9; omega; omega; (rw [hq] at h9; cases h9)), HB.out⟩)

/-- What the program's function tells, in its own words. -/
def rightP (k wk op hn hg nn ng t a u : Int) (y : Bool) (er : Int) : Bool :=
  ((fieldsF k wk op er).2 && (!decide (wk < 0) && (!decide (er < 0) && ((k == 2) || countedB k hn hg nn ng t a u))) && (zb (fieldsF k wk op er).1 1 hn == 0 && zb (fieldsF k wk op er).1 1 hg == 0 && zb (fieldsF k wk op er).1 2 nn == 0 && zb (fieldsF k wk op er).1 2 ng == 0 && zb (fieldsF k wk op er).1 4 t == 0 && zb (fieldsF k wk op er).1 8 a == 0 && zb (fieldsF k wk op er).1 16 u == 0 && !zy (fieldsF k wk op er).1 y && zb (fieldsF k wk op er).1 64 er == 0))
theorem zb_0 {f b x : Int} (h : bits BinOp.and IntKind.i64 f b = 0) : zb f b x = x := if_pos h
theorem zb_1 {f b x : Int} (h : ¬ bits BinOp.and IntKind.i64 f b = 0) : zb f b x = 0 := if_neg h
theorem ev_right_any (k wk op hn hg nn ng t a u : Int) (y : Bool) (er : Int) (w : World) :
    Calls Tryd.prog 8 #[.agg (evC k wk op hn hg nn ng t a u y er)] w fun e w' => e = .returned (.bool (rightP k wk op hn hg nn ng t a u y er)) ∧ Below w.heap.size w w' :=
  right_walk k wk op hn hg nn ng t a u y er _ _ _ _ _ _ _ _ _ _ _ _ ⟨fun W => fields_any k wk op hn hg nn ng t a u y er W⟩ ⟨fun W => counted_any k wk op hn hg nn ng t a u y er W⟩ ⟨fun W => bare_any k wk op hn hg nn ng t a u y er _ (fields_in k wk op er) W⟩ w
end Go.Proofs.YthniclbmpeklmaaDoor.Ev
namespace Go.Proofs.YthniclbmpeklmaaDoor.Ev
open Go.RowKit
set_option linter.unusedVariables false
set_option linter.unusedSimpArgs false
set_option maxHeartbeats 4000000
theorem right_no (k wk op hn hg nn ng t a u : Int) (y : Bool) (er : Int) (h1 : (fieldsF k wk op er).2 = false) (h2 : kindB k wk op = false) : rightP k wk op hn hg nn ng t a u y er = evRight k wk op hn hg nn ng t a u y er := by
  rw [rightP, evRight, h1, h2]
  rfl
theorem pick_in1 {L : List Int} {op : Int} (h : op < 1 ∨ (L.length : Int) ≤ op) : pickL L op = (0, false) := if_pos h
theorem right_eq (k wk op hn hg nn ng t a u : Int) (y : Bool) (er : Int) : rightP k wk op hn hg nn ng t a u y er = evRight k wk op hn hg nn ng t a u y er := by
  by_cases k1 : k = 1
  · subst k1
    cases y <;> (rw [Bool.eq_iff_iff]; simp (decide := true) [rightP, evRight, fieldsF, pickL, kindB, emptyB, hasH, hasN, hasT, hasA, hasU, hasY, hasE, in3, made, countedB, zb, zy, *] <;> omega)
  by_cases k4 : k = 4
  · subst k4
    cases y <;> (rw [Bool.eq_iff_iff]; simp (decide := true) [rightP, evRight, fieldsF, pickL, kindB, emptyB, hasH, hasN, hasT, hasA, hasU, hasY, hasE, in3, made, countedB, zb, zy, *] <;> omega)
  by_cases k2 : k = 2
  · subst k2
    by_cases h : op < 1 ∨ (8 : Int) ≤ op
    · apply right_no
      · rw [fieldsF, if_neg (by decide), if_neg (by decide), if_pos rfl, pick_in1 h]
      · rw [Bool.eq_false_iff]
        simp [kindB]
        omega
    · obtain rfl | rfl | rfl | rfl | rfl | rfl | rfl : op = 1 ∨ op = 2 ∨ op = 3 ∨ op = 4 ∨ op = 5 ∨ op = 6 ∨ op = 7 := by omega
      all_goals (cases y <;> (rw [Bool.eq_iff_iff]; simp (decide := true) [rightP, evRight, fieldsF, pickL, kindB, emptyB, hasH, hasN, hasT, hasA, hasU, hasY, hasE, in3, made, countedB, zb, zy, *] <;> omega))
  by_cases k3 : k = 3
  · subst k3
    by_cases h : op < 1 ∨ (5 : Int) ≤ op
    · apply right_no
      · rw [fieldsF, if_neg (by decide), if_neg (by decide), if_neg (by decide), if_pos rfl, pick_in1 h]
      · rw [Bool.eq_false_iff]
        simp [kindB]
        omega
    · by_cases he : er = 0
      · subst he
        obtain rfl | rfl | rfl | rfl : op = 1 ∨ op = 2 ∨ op = 3 ∨ op = 4 := by omega
        all_goals (cases y <;> (rw [Bool.eq_iff_iff]; simp (decide := true) [rightP, evRight, fieldsF, pickL, kindB, emptyB, hasH, hasN, hasT, hasA, hasU, hasY, hasE, in3, made, countedB, zb, zy, *] <;> omega))
      · obtain rfl | rfl | rfl | rfl : op = 1 ∨ op = 2 ∨ op = 3 ∨ op = 4 := by omega
        all_goals (cases y <;> (rw [Bool.eq_iff_iff]; simp (decide := true) [rightP, evRight, fieldsF, pickL, kindB, emptyB, hasH, hasN, hasT, hasA, hasU, hasY, hasE, in3, made, countedB, zb, zy, *] <;> omega))
  by_cases k5 : k = 5
  · subst k5
    by_cases h : op < 1 ∨ (8 : Int) ≤ op
    · apply right_no
      · rw [fieldsF, if_neg (by decide), if_neg (by decide), if_neg (by decide), if_neg (by decide), if_pos rfl, pick_in1 h]
      · rw [Bool.eq_false_iff]
        simp [kindB]
        omega
    · by_cases he : er = 0
      · subst he
        obtain rfl | rfl | rfl | rfl | rfl | rfl | rfl : op = 1 ∨ op = 2 ∨ op = 3 ∨ op = 4 ∨ op = 5 ∨ op = 6 ∨ op = 7 := by omega
        all_goals (cases y <;> (rw [Bool.eq_iff_iff]; simp (decide := true) [rightP, evRight, fieldsF, pickL, kindB, emptyB, hasH, hasN, hasT, hasA, hasU, hasY, hasE, in3, made, countedB, zb, zy, *] <;> omega))
      · obtain rfl | rfl | rfl | rfl | rfl | rfl | rfl : op = 1 ∨ op = 2 ∨ op = 3 ∨ op = 4 ∨ op = 5 ∨ op = 6 ∨ op = 7 := by omega
        all_goals (cases y <;> (rw [Bool.eq_iff_iff]; simp (decide := true) [rightP, evRight, fieldsF, pickL, kindB, emptyB, hasH, hasN, hasT, hasA, hasU, hasY, hasE, in3, made, countedB, zb, zy, *] <;> omega))
  apply right_no
  · rw [fieldsF, if_neg k1, if_neg k4, if_neg k2, if_neg k3, if_neg k5]
  · rw [Bool.eq_false_iff]
    simp [kindB]
    omega

/-- Whether an event is right, as the program tells it: the reference's own answer. -/
theorem event_right (k wk op hn hg nn ng t a u : Int) (y : Bool) (er : Int) (w : World) :
    Calls Tryd.prog 8 #[.agg (evC k wk op hn hg nn ng t a u y er)] w fun e w' => e = .returned (.bool (evRight k wk op hn hg nn ng t a u y er)) ∧ Below w.heap.size w w' := by
  rw [← right_eq]
  exact ev_right_any k wk op hn hg nn ng t a u y er w
end Go.Proofs.YthniclbmpeklmaaDoor.Ev
namespace Go.Proofs.YthniclbmpeklmaaDoor.Ev
open Go.RowKit Go.Proofs.YthniclbmpeklmaaDoorW.PrintWords Go.Proofs.YthniclbmpeklmaaDoorW.PrintLast Go.Proofs.YthniclbmpeklmaaDoorW.PrintMore
set_option linter.unusedVariables false
set_option linter.unusedSimpArgs false
/-- A number that fits into 64 bits. -/
def BB (n : Int) : Prop := -9223372036854775808 ≤ n ∧ n ≤ 9223372036854775807
/-- A text of bytes. -/
def byt (l : List UInt8) : ByteArray := ⟨l.toArray⟩
theorem byt_app (a b : List UInt8) : byt a ++ byt b = byt (a ++ b) := numS_app a b
theorem numS_byt (n : Int) : numS n = byt (Lib.itoa n) := rfl
theorem hanS_byt (a b : Int) : hanS a b = byt (hanW a b) := by
  rw [hanS, numS_byt, numS_byt, show (⟨#[46]⟩ : ByteArray) = byt [46] from rfl, byt_app, byt_app]
  rw [hanW, List.append_assoc]
  rfl
theorem lit_byt (l : List UInt8) : (⟨l.toArray⟩ : ByteArray) = byt l := rfl
theorem cast_bool {f : FuncId} {args : Array Value} {b b' : Bool} {w : World} (h : b = b') (hc : Calls Tryd.prog f args w fun e w' => e = .returned (.bool b) ∧ Below w.heap.size w w') :
    Calls Tryd.prog f args w fun e w' => e = .returned (.bool b') ∧ Below w.heap.size w w' := h ▸ hc
theorem cast_text {f : FuncId} {args : Array Value} {s s' : ByteArray} {w : World} (h : s = s') (hc : Calls Tryd.prog f args w fun e w' => e = .returned (.string s) ∧ Below w.heap.size w w') :
    Calls Tryd.prog f args w fun e w' => e = .returned (.string s') ∧ Below w.heap.size w w' := h ▸ hc
theorem cast_fields {f : FuncId} {args : Array Value} {p p' : Int × Bool} {w : World} (h : p = p') (hc : Calls Tryd.prog f args w fun e w' => e = .returned (.tuple #[.int .i64 p.1, .bool p.2]) ∧ Below w.heap.size w w') :
    Calls Tryd.prog f args w fun e w' => e = .returned (.tuple #[.int .i64 p'.1, .bool p'.2]) ∧ Below w.heap.size w w' := h ▸ hc

theorem rl_1_0 (wk hn hg nn ng t a u er : Int) (hb : BB wk ∧ BB hn ∧ BB hg ∧ BB nn ∧ BB ng ∧ BB t ∧ BB a ∧ BB u ∧ BB er)
    (hR : evRight 1 wk 0 hn hg nn ng t a u false er = true) (w : World) :
    Calls Tryd.prog 12 #[.agg (evL 1 wk 0 hn hg nn ng t a u false er)] w fun e w' => e = .returned (.string (byt (textW 1 wk 0 hn hg nn ng t a u false er))) ∧ Below w.heap.size w w' := by
  have h0 : wk = 0 := by
    have hk : kindB 1 wk 0 = true := by simp only [evRight, Bool.and_eq_true] at hR; exact hR.1.1.1.1
    rcases kind_cases hk with c | c | c | c | c <;> omega
  refine cast_text ?_ (rline_1_0 wk hn hg nn ng t a u false er
    (numS_size t hb.2.2.2.2.2.1.1 hb.2.2.2.2.2.1.2)
    ⟨fun W => cast_bool hR (right_any 1 wk 0 hn hg nn ng t a u false er W)⟩
    ⟨fun W => cast_bool (show hasH 1 0 = false by simp [hasH, hasN, hasT, hasA, hasU, hasY, hasE, in3, made]) (has_h 1 wk 0 hn hg nn ng t a u false er W)⟩
    ⟨fun W => cast_bool (show hasN 1 0 er = false by simp [hasH, hasN, hasT, hasA, hasU, hasY, hasE, in3, made]) (has_n 1 wk 0 hn hg nn ng t a u false er W)⟩
    ⟨fun W => cast_bool (show hasT 1 0 er = true by simp [hasH, hasN, hasT, hasA, hasU, hasY, hasE, in3, made]) (has_t 1 wk 0 hn hg nn ng t a u false er W)⟩
    ⟨fun W => cast_bool (show hasA 1 0 = false by simp [hasH, hasN, hasT, hasA, hasU, hasY, hasE, in3, made]) (has_a 1 wk 0 hn hg nn ng t a u false er W)⟩
    ⟨fun W => cast_bool (show hasU 1 0 = false by simp [hasH, hasN, hasT, hasA, hasU, hasY, hasE, in3, made]) (has_u 1 wk 0 hn hg nn ng t a u false er W)⟩
    ⟨fun W => cast_bool (show hasY 1 0 = false by simp [hasH, hasN, hasT, hasA, hasU, hasY, hasE, in3, made]) (has_y 1 wk 0 hn hg nn ng t a u false er W)⟩
    ⟨fun W => cast_bool (show hasE 1 0 = false by simp [hasH, hasN, hasT, hasA, hasU, hasY, hasE, in3, made]) (has_e 1 wk 0 hn hg nn ng t a u false er W)⟩
    ⟨fun W => dec_any t.natAbs t (Nat.le_refl _) hb.2.2.2.2.2.1.1 hb.2.2.2.2.2.1.2 W⟩ w)
  simp only [numS_byt, hanS_byt, lit_byt, byt_app]
  exact congrArg byt (by simp [textW, restW, kindW, opW, yesW, hasH, hasN, hasT, hasA, hasU, hasY, hasE, in3, made, tailW_cons, tailW_nil])

theorem el_1_0 (wk hn hg nn ng t a u er : Int) (hb : BB wk ∧ BB hn ∧ BB hg ∧ BB nn ∧ BB ng ∧ BB t ∧ BB a ∧ BB u ∧ BB er)
    (hR : evRight 1 wk 0 hn hg nn ng t a u false er = true) (w : World) (ht : Tab w) :
    Calls Tryd.prog 11 #[.agg (evL 1 wk 0 hn hg nn ng t a u false er)] w fun e w' => e = .returned (.string (byt (textW 1 wk 0 hn hg nn ng t a u false er))) ∧ Below w.heap.size w w' := by
  have h0 : wk = 0 := by
    have hk : kindB 1 wk 0 = true := by simp only [evRight, Bool.and_eq_true] at hR; exact hR.1.1.1.1
    rcases kind_cases hk with c | c | c | c | c <;> omega
  refine cast_text ?_ (eline_1_0 wk hn hg nn ng t a u er
    (numS_size t hb.2.2.2.2.2.1.1 hb.2.2.2.2.2.1.2)
    (numS_size a hb.2.2.2.2.2.2.1.1 hb.2.2.2.2.2.2.1.2)
    (numS_size u hb.2.2.2.2.2.2.2.1.1 hb.2.2.2.2.2.2.2.1.2)
    (numS_size er hb.2.2.2.2.2.2.2.2.1 hb.2.2.2.2.2.2.2.2.2)
    (hanS_size hn hg hb.2.1.1 hb.2.1.2 hb.2.2.1.1 hb.2.2.1.2)
    (hanS_size nn ng hb.2.2.2.1.1 hb.2.2.2.1.2 hb.2.2.2.2.1.1 hb.2.2.2.2.1.2)
    ⟨fun W => cast_bool hR (event_right 1 wk 0 hn hg nn ng t a u false er W)⟩
    ⟨fun W => cast_fields (p' := (4, true)) (by by_cases z : er = 0 <;> simp (decide := true) [fieldsF, pickL, z, h0]) (fields_any 1 wk 0 hn hg nn ng t a u false er W)⟩
    ⟨fun W hT => itoa_any t hb.2.2.2.2.2.1.1 hb.2.2.2.2.2.1.2 W hT⟩
    ⟨fun W hT => itoa_any a hb.2.2.2.2.2.2.1.1 hb.2.2.2.2.2.2.1.2 W hT⟩
    ⟨fun W hT => itoa_any u hb.2.2.2.2.2.2.2.1.1 hb.2.2.2.2.2.2.2.1.2 W hT⟩
    ⟨fun W hT => itoa_any er hb.2.2.2.2.2.2.2.2.1 hb.2.2.2.2.2.2.2.2.2 W hT⟩
    ⟨fun W hT => handle_any hn hg hb.2.1.1 hb.2.1.2 hb.2.2.1.1 hb.2.2.1.2 W hT⟩
    ⟨fun W hT => handle_any nn ng hb.2.2.2.1.1 hb.2.2.2.1.2 hb.2.2.2.2.1.1 hb.2.2.2.2.1.2 W hT⟩ w ht)
  simp only [numS_byt, hanS_byt, lit_byt, byt_app]
  exact congrArg byt (by simp [textW, restW, kindW, opW, yesW, hasH, hasN, hasT, hasA, hasU, hasY, hasE, in3, made, tailW_cons, tailW_nil])

theorem rl_4_0 (wk hn hg nn ng t a u er : Int) (hb : BB wk ∧ BB hn ∧ BB hg ∧ BB nn ∧ BB ng ∧ BB t ∧ BB a ∧ BB u ∧ BB er)
    (hR : evRight 4 wk 0 hn hg nn ng t a u false er = true) (w : World) :
    Calls Tryd.prog 12 #[.agg (evL 4 wk 0 hn hg nn ng t a u false er)] w fun e w' => e = .returned (.string (byt (textW 4 wk 0 hn hg nn ng t a u false er))) ∧ Below w.heap.size w w' := by
  refine cast_text ?_ (rline_4_0 wk hn hg nn ng t a u false er
    (numS_size wk hb.1.1 hb.1.2)
    (numS_size t hb.2.2.2.2.2.1.1 hb.2.2.2.2.2.1.2)
    (numS_size u hb.2.2.2.2.2.2.2.1.1 hb.2.2.2.2.2.2.2.1.2)
    (hanS_size hn hg hb.2.1.1 hb.2.1.2 hb.2.2.1.1 hb.2.2.1.2)
    ⟨fun W => cast_bool hR (right_any 4 wk 0 hn hg nn ng t a u false er W)⟩
    ⟨fun W => cast_bool (show hasH 4 0 = true by simp [hasH, hasN, hasT, hasA, hasU, hasY, hasE, in3, made]) (has_h 4 wk 0 hn hg nn ng t a u false er W)⟩
    ⟨fun W => cast_bool (show hasN 4 0 er = false by simp [hasH, hasN, hasT, hasA, hasU, hasY, hasE, in3, made]) (has_n 4 wk 0 hn hg nn ng t a u false er W)⟩
    ⟨fun W => cast_bool (show hasT 4 0 er = true by simp [hasH, hasN, hasT, hasA, hasU, hasY, hasE, in3, made]) (has_t 4 wk 0 hn hg nn ng t a u false er W)⟩
    ⟨fun W => cast_bool (show hasA 4 0 = false by simp [hasH, hasN, hasT, hasA, hasU, hasY, hasE, in3, made]) (has_a 4 wk 0 hn hg nn ng t a u false er W)⟩
    ⟨fun W => cast_bool (show hasU 4 0 = true by simp [hasH, hasN, hasT, hasA, hasU, hasY, hasE, in3, made]) (has_u 4 wk 0 hn hg nn ng t a u false er W)⟩
    ⟨fun W => cast_bool (show hasY 4 0 = false by simp [hasH, hasN, hasT, hasA, hasU, hasY, hasE, in3, made]) (has_y 4 wk 0 hn hg nn ng t a u false er W)⟩
    ⟨fun W => cast_bool (show hasE 4 0 = false by simp [hasH, hasN, hasT, hasA, hasU, hasY, hasE, in3, made]) (has_e 4 wk 0 hn hg nn ng t a u false er W)⟩
    ⟨fun W => dec_any wk.natAbs wk (Nat.le_refl _) hb.1.1 hb.1.2 W⟩
    ⟨fun W => dec_any t.natAbs t (Nat.le_refl _) hb.2.2.2.2.2.1.1 hb.2.2.2.2.2.1.2 W⟩
    ⟨fun W => dec_any u.natAbs u (Nat.le_refl _) hb.2.2.2.2.2.2.2.1.1 hb.2.2.2.2.2.2.2.1.2 W⟩
    ⟨fun W => ref_handle_any hn hg hb.2.1.1 hb.2.1.2 hb.2.2.1.1 hb.2.2.1.2 W⟩ w)
  simp only [numS_byt, hanS_byt, lit_byt, byt_app]
  exact congrArg byt (by simp [textW, restW, kindW, opW, yesW, hasH, hasN, hasT, hasA, hasU, hasY, hasE, in3, made, tailW_cons, tailW_nil])

theorem el_4_0 (wk hn hg nn ng t a u er : Int) (hb : BB wk ∧ BB hn ∧ BB hg ∧ BB nn ∧ BB ng ∧ BB t ∧ BB a ∧ BB u ∧ BB er)
    (hR : evRight 4 wk 0 hn hg nn ng t a u false er = true) (w : World) (ht : Tab w) :
    Calls Tryd.prog 11 #[.agg (evL 4 wk 0 hn hg nn ng t a u false er)] w fun e w' => e = .returned (.string (byt (textW 4 wk 0 hn hg nn ng t a u false er))) ∧ Below w.heap.size w w' := by
  refine cast_text ?_ (eline_4_0 wk hn hg nn ng t a u er
    (numS_size wk hb.1.1 hb.1.2)
    (numS_size t hb.2.2.2.2.2.1.1 hb.2.2.2.2.2.1.2)
    (numS_size a hb.2.2.2.2.2.2.1.1 hb.2.2.2.2.2.2.1.2)
    (numS_size u hb.2.2.2.2.2.2.2.1.1 hb.2.2.2.2.2.2.2.1.2)
    (numS_size er hb.2.2.2.2.2.2.2.2.1 hb.2.2.2.2.2.2.2.2.2)
    (hanS_size hn hg hb.2.1.1 hb.2.1.2 hb.2.2.1.1 hb.2.2.1.2)
    (hanS_size nn ng hb.2.2.2.1.1 hb.2.2.2.1.2 hb.2.2.2.2.1.1 hb.2.2.2.2.1.2)
    ⟨fun W => cast_bool hR (event_right 4 wk 0 hn hg nn ng t a u false er W)⟩
    ⟨fun W => cast_fields (p' := (21, true)) (by by_cases z : er = 0 <;> simp (decide := true) [fieldsF, pickL, z]) (fields_any 4 wk 0 hn hg nn ng t a u false er W)⟩
    ⟨fun W hT => itoa_any wk hb.1.1 hb.1.2 W hT⟩
    ⟨fun W hT => itoa_any t hb.2.2.2.2.2.1.1 hb.2.2.2.2.2.1.2 W hT⟩
    ⟨fun W hT => itoa_any a hb.2.2.2.2.2.2.1.1 hb.2.2.2.2.2.2.1.2 W hT⟩
    ⟨fun W hT => itoa_any u hb.2.2.2.2.2.2.2.1.1 hb.2.2.2.2.2.2.2.1.2 W hT⟩
    ⟨fun W hT => itoa_any er hb.2.2.2.2.2.2.2.2.1 hb.2.2.2.2.2.2.2.2.2 W hT⟩
    ⟨fun W hT => handle_any hn hg hb.2.1.1 hb.2.1.2 hb.2.2.1.1 hb.2.2.1.2 W hT⟩
    ⟨fun W hT => handle_any nn ng hb.2.2.2.1.1 hb.2.2.2.1.2 hb.2.2.2.2.1.1 hb.2.2.2.2.1.2 W hT⟩ w ht)
  simp only [numS_byt, hanS_byt, lit_byt, byt_app]
  exact congrArg byt (by simp [textW, restW, kindW, opW, yesW, hasH, hasN, hasT, hasA, hasU, hasY, hasE, in3, made, tailW_cons, tailW_nil])

theorem rl_2_1 (wk hn hg nn ng t a u er : Int) (hb : BB wk ∧ BB hn ∧ BB hg ∧ BB nn ∧ BB ng ∧ BB t ∧ BB a ∧ BB u ∧ BB er)
    (hR : evRight 2 wk 1 hn hg nn ng t a u false er = true) (w : World) :
    Calls Tryd.prog 12 #[.agg (evL 2 wk 1 hn hg nn ng t a u false er)] w fun e w' => e = .returned (.string (byt (textW 2 wk 1 hn hg nn ng t a u false er))) ∧ Below w.heap.size w w' := by
  refine cast_text ?_ (rline_2_1 wk hn hg nn ng t a u false er
    (numS_size wk hb.1.1 hb.1.2)
    (numS_size t hb.2.2.2.2.2.1.1 hb.2.2.2.2.2.1.2)
    (numS_size a hb.2.2.2.2.2.2.1.1 hb.2.2.2.2.2.2.1.2)
    (numS_size u hb.2.2.2.2.2.2.2.1.1 hb.2.2.2.2.2.2.2.1.2)
    ⟨fun W => cast_bool hR (right_any 2 wk 1 hn hg nn ng t a u false er W)⟩
    ⟨fun W => cast_bool (show hasH 2 1 = false by simp [hasH, hasN, hasT, hasA, hasU, hasY, hasE, in3, made]) (has_h 2 wk 1 hn hg nn ng t a u false er W)⟩
    ⟨fun W => cast_bool (show hasN 2 1 er = false by simp [hasH, hasN, hasT, hasA, hasU, hasY, hasE, in3, made]) (has_n 2 wk 1 hn hg nn ng t a u false er W)⟩
    ⟨fun W => cast_bool (show hasT 2 1 er = true by simp [hasH, hasN, hasT, hasA, hasU, hasY, hasE, in3, made]) (has_t 2 wk 1 hn hg nn ng t a u false er W)⟩
    ⟨fun W => cast_bool (show hasA 2 1 = true by simp [hasH, hasN, hasT, hasA, hasU, hasY, hasE, in3, made]) (has_a 2 wk 1 hn hg nn ng t a u false er W)⟩
    ⟨fun W => cast_bool (show hasU 2 1 = true by simp [hasH, hasN, hasT, hasA, hasU, hasY, hasE, in3, made]) (has_u 2 wk 1 hn hg nn ng t a u false er W)⟩
    ⟨fun W => cast_bool (show hasY 2 1 = false by simp [hasH, hasN, hasT, hasA, hasU, hasY, hasE, in3, made]) (has_y 2 wk 1 hn hg nn ng t a u false er W)⟩
    ⟨fun W => cast_bool (show hasE 2 1 = false by simp [hasH, hasN, hasT, hasA, hasU, hasY, hasE, in3, made]) (has_e 2 wk 1 hn hg nn ng t a u false er W)⟩
    ⟨fun W => dec_any wk.natAbs wk (Nat.le_refl _) hb.1.1 hb.1.2 W⟩
    ⟨fun W => dec_any t.natAbs t (Nat.le_refl _) hb.2.2.2.2.2.1.1 hb.2.2.2.2.2.1.2 W⟩
    ⟨fun W => dec_any a.natAbs a (Nat.le_refl _) hb.2.2.2.2.2.2.1.1 hb.2.2.2.2.2.2.1.2 W⟩
    ⟨fun W => dec_any u.natAbs u (Nat.le_refl _) hb.2.2.2.2.2.2.2.1.1 hb.2.2.2.2.2.2.2.1.2 W⟩ w)
  simp only [numS_byt, hanS_byt, lit_byt, byt_app]
  exact congrArg byt (by simp [textW, restW, kindW, opW, yesW, hasH, hasN, hasT, hasA, hasU, hasY, hasE, in3, made, tailW_cons, tailW_nil])

theorem el_2_1 (wk hn hg nn ng t a u er : Int) (hb : BB wk ∧ BB hn ∧ BB hg ∧ BB nn ∧ BB ng ∧ BB t ∧ BB a ∧ BB u ∧ BB er)
    (hR : evRight 2 wk 1 hn hg nn ng t a u false er = true) (w : World) (ht : Tab w) :
    Calls Tryd.prog 11 #[.agg (evL 2 wk 1 hn hg nn ng t a u false er)] w fun e w' => e = .returned (.string (byt (textW 2 wk 1 hn hg nn ng t a u false er))) ∧ Below w.heap.size w w' := by
  refine cast_text ?_ (eline_2_1 wk hn hg nn ng t a u er
    (numS_size wk hb.1.1 hb.1.2)
    (numS_size t hb.2.2.2.2.2.1.1 hb.2.2.2.2.2.1.2)
    (numS_size a hb.2.2.2.2.2.2.1.1 hb.2.2.2.2.2.2.1.2)
    (numS_size u hb.2.2.2.2.2.2.2.1.1 hb.2.2.2.2.2.2.2.1.2)
    (numS_size er hb.2.2.2.2.2.2.2.2.1 hb.2.2.2.2.2.2.2.2.2)
    (hanS_size hn hg hb.2.1.1 hb.2.1.2 hb.2.2.1.1 hb.2.2.1.2)
    (hanS_size nn ng hb.2.2.2.1.1 hb.2.2.2.1.2 hb.2.2.2.2.1.1 hb.2.2.2.2.1.2)
    ⟨fun W => cast_bool hR (event_right 2 wk 1 hn hg nn ng t a u false er W)⟩
    ⟨fun W => cast_fields (p' := (28, true)) (by by_cases z : er = 0 <;> simp (decide := true) [fieldsF, pickL, z]) (fields_any 2 wk 1 hn hg nn ng t a u false er W)⟩
    ⟨fun W hT => itoa_any wk hb.1.1 hb.1.2 W hT⟩
    ⟨fun W hT => itoa_any t hb.2.2.2.2.2.1.1 hb.2.2.2.2.2.1.2 W hT⟩
    ⟨fun W hT => itoa_any a hb.2.2.2.2.2.2.1.1 hb.2.2.2.2.2.2.1.2 W hT⟩
    ⟨fun W hT => itoa_any u hb.2.2.2.2.2.2.2.1.1 hb.2.2.2.2.2.2.2.1.2 W hT⟩
    ⟨fun W hT => itoa_any er hb.2.2.2.2.2.2.2.2.1 hb.2.2.2.2.2.2.2.2.2 W hT⟩
    ⟨fun W hT => handle_any hn hg hb.2.1.1 hb.2.1.2 hb.2.2.1.1 hb.2.2.1.2 W hT⟩
    ⟨fun W hT => handle_any nn ng hb.2.2.2.1.1 hb.2.2.2.1.2 hb.2.2.2.2.1.1 hb.2.2.2.2.1.2 W hT⟩ w ht)
  simp only [numS_byt, hanS_byt, lit_byt, byt_app]
  exact congrArg byt (by simp [textW, restW, kindW, opW, yesW, hasH, hasN, hasT, hasA, hasU, hasY, hasE, in3, made, tailW_cons, tailW_nil])

theorem rl_2_2 (wk hn hg nn ng t a u er : Int) (hb : BB wk ∧ BB hn ∧ BB hg ∧ BB nn ∧ BB ng ∧ BB t ∧ BB a ∧ BB u ∧ BB er)
    (hR : evRight 2 wk 2 hn hg nn ng t a u false er = true) (w : World) :
    Calls Tryd.prog 12 #[.agg (evL 2 wk 2 hn hg nn ng t a u false er)] w fun e w' => e = .returned (.string (byt (textW 2 wk 2 hn hg nn ng t a u false er))) ∧ Below w.heap.size w w' := by
  refine cast_text ?_ (rline_2_2 wk hn hg nn ng t a u false er
    (numS_size wk hb.1.1 hb.1.2)
    (hanS_size hn hg hb.2.1.1 hb.2.1.2 hb.2.2.1.1 hb.2.2.1.2)
    ⟨fun W => cast_bool hR (right_any 2 wk 2 hn hg nn ng t a u false er W)⟩
    ⟨fun W => cast_bool (show hasH 2 2 = true by simp [hasH, hasN, hasT, hasA, hasU, hasY, hasE, in3, made]) (has_h 2 wk 2 hn hg nn ng t a u false er W)⟩
    ⟨fun W => cast_bool (show hasN 2 2 er = false by simp [hasH, hasN, hasT, hasA, hasU, hasY, hasE, in3, made]) (has_n 2 wk 2 hn hg nn ng t a u false er W)⟩
    ⟨fun W => cast_bool (show hasT 2 2 er = false by simp [hasH, hasN, hasT, hasA, hasU, hasY, hasE, in3, made]) (has_t 2 wk 2 hn hg nn ng t a u false er W)⟩
    ⟨fun W => cast_bool (show hasA 2 2 = false by simp [hasH, hasN, hasT, hasA, hasU, hasY, hasE, in3, made]) (has_a 2 wk 2 hn hg nn ng t a u false er W)⟩
    ⟨fun W => cast_bool (show hasU 2 2 = false by simp [hasH, hasN, hasT, hasA, hasU, hasY, hasE, in3, made]) (has_u 2 wk 2 hn hg nn ng t a u false er W)⟩
    ⟨fun W => cast_bool (show hasY 2 2 = false by simp [hasH, hasN, hasT, hasA, hasU, hasY, hasE, in3, made]) (has_y 2 wk 2 hn hg nn ng t a u false er W)⟩
    ⟨fun W => cast_bool (show hasE 2 2 = false by simp [hasH, hasN, hasT, hasA, hasU, hasY, hasE, in3, made]) (has_e 2 wk 2 hn hg nn ng t a u false er W)⟩
    ⟨fun W => dec_any wk.natAbs wk (Nat.le_refl _) hb.1.1 hb.1.2 W⟩
    ⟨fun W => ref_handle_any hn hg hb.2.1.1 hb.2.1.2 hb.2.2.1.1 hb.2.2.1.2 W⟩ w)
  simp only [numS_byt, hanS_byt, lit_byt, byt_app]
  exact congrArg byt (by simp [textW, restW, kindW, opW, yesW, hasH, hasN, hasT, hasA, hasU, hasY, hasE, in3, made, tailW_cons, tailW_nil])

theorem el_2_2 (wk hn hg nn ng t a u er : Int) (hb : BB wk ∧ BB hn ∧ BB hg ∧ BB nn ∧ BB ng ∧ BB t ∧ BB a ∧ BB u ∧ BB er)
    (hR : evRight 2 wk 2 hn hg nn ng t a u false er = true) (w : World) (ht : Tab w) :
    Calls Tryd.prog 11 #[.agg (evL 2 wk 2 hn hg nn ng t a u false er)] w fun e w' => e = .returned (.string (byt (textW 2 wk 2 hn hg nn ng t a u false er))) ∧ Below w.heap.size w w' := by
  refine cast_text ?_ (eline_2_2 wk hn hg nn ng t a u er
    (numS_size wk hb.1.1 hb.1.2)
    (numS_size t hb.2.2.2.2.2.1.1 hb.2.2.2.2.2.1.2)
    (numS_size a hb.2.2.2.2.2.2.1.1 hb.2.2.2.2.2.2.1.2)
    (numS_size u hb.2.2.2.2.2.2.2.1.1 hb.2.2.2.2.2.2.2.1.2)
    (numS_size er hb.2.2.2.2.2.2.2.2.1 hb.2.2.2.2.2.2.2.2.2)
    (hanS_size hn hg hb.2.1.1 hb.2.1.2 hb.2.2.1.1 hb.2.2.1.2)
    (hanS_size nn ng hb.2.2.2.1.1 hb.2.2.2.1.2 hb.2.2.2.2.1.1 hb.2.2.2.2.1.2)
    ⟨fun W => cast_bool hR (event_right 2 wk 2 hn hg nn ng t a u false er W)⟩
    ⟨fun W => cast_fields (p' := (1, true)) (by by_cases z : er = 0 <;> simp (decide := true) [fieldsF, pickL, z]) (fields_any 2 wk 2 hn hg nn ng t a u false er W)⟩
    ⟨fun W hT => itoa_any wk hb.1.1 hb.1.2 W hT⟩
    ⟨fun W hT => itoa_any t hb.2.2.2.2.2.1.1 hb.2.2.2.2.2.1.2 W hT⟩
    ⟨fun W hT => itoa_any a hb.2.2.2.2.2.2.1.1 hb.2.2.2.2.2.2.1.2 W hT⟩
    ⟨fun W hT => itoa_any u hb.2.2.2.2.2.2.2.1.1 hb.2.2.2.2.2.2.2.1.2 W hT⟩
    ⟨fun W hT => itoa_any er hb.2.2.2.2.2.2.2.2.1 hb.2.2.2.2.2.2.2.2.2 W hT⟩
    ⟨fun W hT => handle_any hn hg hb.2.1.1 hb.2.1.2 hb.2.2.1.1 hb.2.2.1.2 W hT⟩
    ⟨fun W hT => handle_any nn ng hb.2.2.2.1.1 hb.2.2.2.1.2 hb.2.2.2.2.1.1 hb.2.2.2.2.1.2 W hT⟩ w ht)
  simp only [numS_byt, hanS_byt, lit_byt, byt_app]
  exact congrArg byt (by simp [textW, restW, kindW, opW, yesW, hasH, hasN, hasT, hasA, hasU, hasY, hasE, in3, made, tailW_cons, tailW_nil])

theorem rl_2_3 (wk hn hg nn ng t a u er : Int) (hb : BB wk ∧ BB hn ∧ BB hg ∧ BB nn ∧ BB ng ∧ BB t ∧ BB a ∧ BB u ∧ BB er)
    (hR : evRight 2 wk 3 hn hg nn ng t a u false er = true) (w : World) :
    Calls Tryd.prog 12 #[.agg (evL 2 wk 3 hn hg nn ng t a u false er)] w fun e w' => e = .returned (.string (byt (textW 2 wk 3 hn hg nn ng t a u false er))) ∧ Below w.heap.size w w' := by
  refine cast_text ?_ (rline_2_3 wk hn hg nn ng t a u false er
    (numS_size wk hb.1.1 hb.1.2)
    (numS_size t hb.2.2.2.2.2.1.1 hb.2.2.2.2.2.1.2)
    (hanS_size hn hg hb.2.1.1 hb.2.1.2 hb.2.2.1.1 hb.2.2.1.2)
    ⟨fun W => cast_bool hR (right_any 2 wk 3 hn hg nn ng t a u false er W)⟩
    ⟨fun W => cast_bool (show hasH 2 3 = true by simp [hasH, hasN, hasT, hasA, hasU, hasY, hasE, in3, made]) (has_h 2 wk 3 hn hg nn ng t a u false er W)⟩
    ⟨fun W => cast_bool (show hasN 2 3 er = false by simp [hasH, hasN, hasT, hasA, hasU, hasY, hasE, in3, made]) (has_n 2 wk 3 hn hg nn ng t a u false er W)⟩
    ⟨fun W => cast_bool (show hasT 2 3 er = true by simp [hasH, hasN, hasT, hasA, hasU, hasY, hasE, in3, made]) (has_t 2 wk 3 hn hg nn ng t a u false er W)⟩
    ⟨fun W => cast_bool (show hasA 2 3 = false by simp [hasH, hasN, hasT, hasA, hasU, hasY, hasE, in3, made]) (has_a 2 wk 3 hn hg nn ng t a u false er W)⟩
    ⟨fun W => cast_bool (show hasU 2 3 = false by simp [hasH, hasN, hasT, hasA, hasU, hasY, hasE, in3, made]) (has_u 2 wk 3 hn hg nn ng t a u false er W)⟩
    ⟨fun W => cast_bool (show hasY 2 3 = false by simp [hasH, hasN, hasT, hasA, hasU, hasY, hasE, in3, made]) (has_y 2 wk 3 hn hg nn ng t a u false er W)⟩
    ⟨fun W => cast_bool (show hasE 2 3 = false by simp [hasH, hasN, hasT, hasA, hasU, hasY, hasE, in3, made]) (has_e 2 wk 3 hn hg nn ng t a u false er W)⟩
    ⟨fun W => dec_any wk.natAbs wk (Nat.le_refl _) hb.1.1 hb.1.2 W⟩
    ⟨fun W => dec_any t.natAbs t (Nat.le_refl _) hb.2.2.2.2.2.1.1 hb.2.2.2.2.2.1.2 W⟩
    ⟨fun W => ref_handle_any hn hg hb.2.1.1 hb.2.1.2 hb.2.2.1.1 hb.2.2.1.2 W⟩ w)
  simp only [numS_byt, hanS_byt, lit_byt, byt_app]
  exact congrArg byt (by simp [textW, restW, kindW, opW, yesW, hasH, hasN, hasT, hasA, hasU, hasY, hasE, in3, made, tailW_cons, tailW_nil])

theorem el_2_3 (wk hn hg nn ng t a u er : Int) (hb : BB wk ∧ BB hn ∧ BB hg ∧ BB nn ∧ BB ng ∧ BB t ∧ BB a ∧ BB u ∧ BB er)
    (hR : evRight 2 wk 3 hn hg nn ng t a u false er = true) (w : World) (ht : Tab w) :
    Calls Tryd.prog 11 #[.agg (evL 2 wk 3 hn hg nn ng t a u false er)] w fun e w' => e = .returned (.string (byt (textW 2 wk 3 hn hg nn ng t a u false er))) ∧ Below w.heap.size w w' := by
  refine cast_text ?_ (eline_2_3 wk hn hg nn ng t a u er
    (numS_size wk hb.1.1 hb.1.2)
    (numS_size t hb.2.2.2.2.2.1.1 hb.2.2.2.2.2.1.2)
    (numS_size a hb.2.2.2.2.2.2.1.1 hb.2.2.2.2.2.2.1.2)
    (numS_size u hb.2.2.2.2.2.2.2.1.1 hb.2.2.2.2.2.2.2.1.2)
    (numS_size er hb.2.2.2.2.2.2.2.2.1 hb.2.2.2.2.2.2.2.2.2)
    (hanS_size hn hg hb.2.1.1 hb.2.1.2 hb.2.2.1.1 hb.2.2.1.2)
    (hanS_size nn ng hb.2.2.2.1.1 hb.2.2.2.1.2 hb.2.2.2.2.1.1 hb.2.2.2.2.1.2)
    ⟨fun W => cast_bool hR (event_right 2 wk 3 hn hg nn ng t a u false er W)⟩
    ⟨fun W => cast_fields (p' := (5, true)) (by by_cases z : er = 0 <;> simp (decide := true) [fieldsF, pickL, z]) (fields_any 2 wk 3 hn hg nn ng t a u false er W)⟩
    ⟨fun W hT => itoa_any wk hb.1.1 hb.1.2 W hT⟩
    ⟨fun W hT => itoa_any t hb.2.2.2.2.2.1.1 hb.2.2.2.2.2.1.2 W hT⟩
    ⟨fun W hT => itoa_any a hb.2.2.2.2.2.2.1.1 hb.2.2.2.2.2.2.1.2 W hT⟩
    ⟨fun W hT => itoa_any u hb.2.2.2.2.2.2.2.1.1 hb.2.2.2.2.2.2.2.1.2 W hT⟩
    ⟨fun W hT => itoa_any er hb.2.2.2.2.2.2.2.2.1 hb.2.2.2.2.2.2.2.2.2 W hT⟩
    ⟨fun W hT => handle_any hn hg hb.2.1.1 hb.2.1.2 hb.2.2.1.1 hb.2.2.1.2 W hT⟩
    ⟨fun W hT => handle_any nn ng hb.2.2.2.1.1 hb.2.2.2.1.2 hb.2.2.2.2.1.1 hb.2.2.2.2.1.2 W hT⟩ w ht)
  simp only [numS_byt, hanS_byt, lit_byt, byt_app]
  exact congrArg byt (by simp [textW, restW, kindW, opW, yesW, hasH, hasN, hasT, hasA, hasU, hasY, hasE, in3, made, tailW_cons, tailW_nil])

theorem rl_2_4 (wk hn hg nn ng t a u er : Int) (hb : BB wk ∧ BB hn ∧ BB hg ∧ BB nn ∧ BB ng ∧ BB t ∧ BB a ∧ BB u ∧ BB er)
    (hR : evRight 2 wk 4 hn hg nn ng t a u false er = true) (w : World) :
    Calls Tryd.prog 12 #[.agg (evL 2 wk 4 hn hg nn ng t a u false er)] w fun e w' => e = .returned (.string (byt (textW 2 wk 4 hn hg nn ng t a u false er))) ∧ Below w.heap.size w w' := by
  refine cast_text ?_ (rline_2_4 wk hn hg nn ng t a u false er
    (numS_size wk hb.1.1 hb.1.2)
    (numS_size a hb.2.2.2.2.2.2.1.1 hb.2.2.2.2.2.2.1.2)
    (hanS_size hn hg hb.2.1.1 hb.2.1.2 hb.2.2.1.1 hb.2.2.1.2)
    ⟨fun W => cast_bool hR (right_any 2 wk 4 hn hg nn ng t a u false er W)⟩
    ⟨fun W => cast_bool (show hasH 2 4 = true by simp [hasH, hasN, hasT, hasA, hasU, hasY, hasE, in3, made]) (has_h 2 wk 4 hn hg nn ng t a u false er W)⟩
    ⟨fun W => cast_bool (show hasN 2 4 er = false by simp [hasH, hasN, hasT, hasA, hasU, hasY, hasE, in3, made]) (has_n 2 wk 4 hn hg nn ng t a u false er W)⟩
    ⟨fun W => cast_bool (show hasT 2 4 er = false by simp [hasH, hasN, hasT, hasA, hasU, hasY, hasE, in3, made]) (has_t 2 wk 4 hn hg nn ng t a u false er W)⟩
    ⟨fun W => cast_bool (show hasA 2 4 = true by simp [hasH, hasN, hasT, hasA, hasU, hasY, hasE, in3, made]) (has_a 2 wk 4 hn hg nn ng t a u false er W)⟩
    ⟨fun W => cast_bool (show hasU 2 4 = false by simp [hasH, hasN, hasT, hasA, hasU, hasY, hasE, in3, made]) (has_u 2 wk 4 hn hg nn ng t a u false er W)⟩
    ⟨fun W => cast_bool (show hasY 2 4 = false by simp [hasH, hasN, hasT, hasA, hasU, hasY, hasE, in3, made]) (has_y 2 wk 4 hn hg nn ng t a u false er W)⟩
    ⟨fun W => cast_bool (show hasE 2 4 = false by simp [hasH, hasN, hasT, hasA, hasU, hasY, hasE, in3, made]) (has_e 2 wk 4 hn hg nn ng t a u false er W)⟩
    ⟨fun W => dec_any wk.natAbs wk (Nat.le_refl _) hb.1.1 hb.1.2 W⟩
    ⟨fun W => dec_any a.natAbs a (Nat.le_refl _) hb.2.2.2.2.2.2.1.1 hb.2.2.2.2.2.2.1.2 W⟩
    ⟨fun W => ref_handle_any hn hg hb.2.1.1 hb.2.1.2 hb.2.2.1.1 hb.2.2.1.2 W⟩ w)
  simp only [numS_byt, hanS_byt, lit_byt, byt_app]
  exact congrArg byt (by simp [textW, restW, kindW, opW, yesW, hasH, hasN, hasT, hasA, hasU, hasY, hasE, in3, made, tailW_cons, tailW_nil])

theorem el_2_4 (wk hn hg nn ng t a u er : Int) (hb : BB wk ∧ BB hn ∧ BB hg ∧ BB nn ∧ BB ng ∧ BB t ∧ BB a ∧ BB u ∧ BB er)
    (hR : evRight 2 wk 4 hn hg nn ng t a u false er = true) (w : World) (ht : Tab w) :
    Calls Tryd.prog 11 #[.agg (evL 2 wk 4 hn hg nn ng t a u false er)] w fun e w' => e = .returned (.string (byt (textW 2 wk 4 hn hg nn ng t a u false er))) ∧ Below w.heap.size w w' := by
  refine cast_text ?_ (eline_2_4 wk hn hg nn ng t a u er
    (numS_size wk hb.1.1 hb.1.2)
    (numS_size t hb.2.2.2.2.2.1.1 hb.2.2.2.2.2.1.2)
    (numS_size a hb.2.2.2.2.2.2.1.1 hb.2.2.2.2.2.2.1.2)
    (numS_size u hb.2.2.2.2.2.2.2.1.1 hb.2.2.2.2.2.2.2.1.2)
    (numS_size er hb.2.2.2.2.2.2.2.2.1 hb.2.2.2.2.2.2.2.2.2)
    (hanS_size hn hg hb.2.1.1 hb.2.1.2 hb.2.2.1.1 hb.2.2.1.2)
    (hanS_size nn ng hb.2.2.2.1.1 hb.2.2.2.1.2 hb.2.2.2.2.1.1 hb.2.2.2.2.1.2)
    ⟨fun W => cast_bool hR (event_right 2 wk 4 hn hg nn ng t a u false er W)⟩
    ⟨fun W => cast_fields (p' := (9, true)) (by by_cases z : er = 0 <;> simp (decide := true) [fieldsF, pickL, z]) (fields_any 2 wk 4 hn hg nn ng t a u false er W)⟩
    ⟨fun W hT => itoa_any wk hb.1.1 hb.1.2 W hT⟩
    ⟨fun W hT => itoa_any t hb.2.2.2.2.2.1.1 hb.2.2.2.2.2.1.2 W hT⟩
    ⟨fun W hT => itoa_any a hb.2.2.2.2.2.2.1.1 hb.2.2.2.2.2.2.1.2 W hT⟩
    ⟨fun W hT => itoa_any u hb.2.2.2.2.2.2.2.1.1 hb.2.2.2.2.2.2.2.1.2 W hT⟩
    ⟨fun W hT => itoa_any er hb.2.2.2.2.2.2.2.2.1 hb.2.2.2.2.2.2.2.2.2 W hT⟩
    ⟨fun W hT => handle_any hn hg hb.2.1.1 hb.2.1.2 hb.2.2.1.1 hb.2.2.1.2 W hT⟩
    ⟨fun W hT => handle_any nn ng hb.2.2.2.1.1 hb.2.2.2.1.2 hb.2.2.2.2.1.1 hb.2.2.2.2.1.2 W hT⟩ w ht)
  simp only [numS_byt, hanS_byt, lit_byt, byt_app]
  exact congrArg byt (by simp [textW, restW, kindW, opW, yesW, hasH, hasN, hasT, hasA, hasU, hasY, hasE, in3, made, tailW_cons, tailW_nil])

theorem rl_2_5 (wk hn hg nn ng t a u er : Int) (hb : BB wk ∧ BB hn ∧ BB hg ∧ BB nn ∧ BB ng ∧ BB t ∧ BB a ∧ BB u ∧ BB er)
    (hR : evRight 2 wk 5 hn hg nn ng t a u false er = true) (w : World) :
    Calls Tryd.prog 12 #[.agg (evL 2 wk 5 hn hg nn ng t a u false er)] w fun e w' => e = .returned (.string (byt (textW 2 wk 5 hn hg nn ng t a u false er))) ∧ Below w.heap.size w w' := by
  refine cast_text ?_ (rline_2_5 wk hn hg nn ng t a u false er
    (numS_size wk hb.1.1 hb.1.2)
    ⟨fun W => cast_bool hR (right_any 2 wk 5 hn hg nn ng t a u false er W)⟩
    ⟨fun W => cast_bool (show hasH 2 5 = false by simp [hasH, hasN, hasT, hasA, hasU, hasY, hasE, in3, made]) (has_h 2 wk 5 hn hg nn ng t a u false er W)⟩
    ⟨fun W => cast_bool (show hasN 2 5 er = false by simp [hasH, hasN, hasT, hasA, hasU, hasY, hasE, in3, made]) (has_n 2 wk 5 hn hg nn ng t a u false er W)⟩
    ⟨fun W => cast_bool (show hasT 2 5 er = false by simp [hasH, hasN, hasT, hasA, hasU, hasY, hasE, in3, made]) (has_t 2 wk 5 hn hg nn ng t a u false er W)⟩
    ⟨fun W => cast_bool (show hasA 2 5 = false by simp [hasH, hasN, hasT, hasA, hasU, hasY, hasE, in3, made]) (has_a 2 wk 5 hn hg nn ng t a u false er W)⟩
    ⟨fun W => cast_bool (show hasU 2 5 = false by simp [hasH, hasN, hasT, hasA, hasU, hasY, hasE, in3, made]) (has_u 2 wk 5 hn hg nn ng t a u false er W)⟩
    ⟨fun W => cast_bool (show hasY 2 5 = false by simp [hasH, hasN, hasT, hasA, hasU, hasY, hasE, in3, made]) (has_y 2 wk 5 hn hg nn ng t a u false er W)⟩
    ⟨fun W => cast_bool (show hasE 2 5 = false by simp [hasH, hasN, hasT, hasA, hasU, hasY, hasE, in3, made]) (has_e 2 wk 5 hn hg nn ng t a u false er W)⟩
    ⟨fun W => dec_any wk.natAbs wk (Nat.le_refl _) hb.1.1 hb.1.2 W⟩ w)
  simp only [numS_byt, hanS_byt, lit_byt, byt_app]
  exact congrArg byt (by simp [textW, restW, kindW, opW, yesW, hasH, hasN, hasT, hasA, hasU, hasY, hasE, in3, made, tailW_cons, tailW_nil])

theorem el_2_5 (wk hn hg nn ng t a u er : Int) (hb : BB wk ∧ BB hn ∧ BB hg ∧ BB nn ∧ BB ng ∧ BB t ∧ BB a ∧ BB u ∧ BB er)
    (hR : evRight 2 wk 5 hn hg nn ng t a u false er = true) (w : World) (ht : Tab w) :
    Calls Tryd.prog 11 #[.agg (evL 2 wk 5 hn hg nn ng t a u false er)] w fun e w' => e = .returned (.string (byt (textW 2 wk 5 hn hg nn ng t a u false er))) ∧ Below w.heap.size w w' := by
  refine cast_text ?_ (eline_2_5 wk hn hg nn ng t a u er
    (numS_size wk hb.1.1 hb.1.2)
    (numS_size t hb.2.2.2.2.2.1.1 hb.2.2.2.2.2.1.2)
    (numS_size a hb.2.2.2.2.2.2.1.1 hb.2.2.2.2.2.2.1.2)
    (numS_size u hb.2.2.2.2.2.2.2.1.1 hb.2.2.2.2.2.2.2.1.2)
    (numS_size er hb.2.2.2.2.2.2.2.2.1 hb.2.2.2.2.2.2.2.2.2)
    (hanS_size hn hg hb.2.1.1 hb.2.1.2 hb.2.2.1.1 hb.2.2.1.2)
    (hanS_size nn ng hb.2.2.2.1.1 hb.2.2.2.1.2 hb.2.2.2.2.1.1 hb.2.2.2.2.1.2)
    ⟨fun W => cast_bool hR (event_right 2 wk 5 hn hg nn ng t a u false er W)⟩
    ⟨fun W => cast_fields (p' := (0, true)) (by by_cases z : er = 0 <;> simp (decide := true) [fieldsF, pickL, z]) (fields_any 2 wk 5 hn hg nn ng t a u false er W)⟩
    ⟨fun W hT => itoa_any wk hb.1.1 hb.1.2 W hT⟩
    ⟨fun W hT => itoa_any t hb.2.2.2.2.2.1.1 hb.2.2.2.2.2.1.2 W hT⟩
    ⟨fun W hT => itoa_any a hb.2.2.2.2.2.2.1.1 hb.2.2.2.2.2.2.1.2 W hT⟩
    ⟨fun W hT => itoa_any u hb.2.2.2.2.2.2.2.1.1 hb.2.2.2.2.2.2.2.1.2 W hT⟩
    ⟨fun W hT => itoa_any er hb.2.2.2.2.2.2.2.2.1 hb.2.2.2.2.2.2.2.2.2 W hT⟩
    ⟨fun W hT => handle_any hn hg hb.2.1.1 hb.2.1.2 hb.2.2.1.1 hb.2.2.1.2 W hT⟩
    ⟨fun W hT => handle_any nn ng hb.2.2.2.1.1 hb.2.2.2.1.2 hb.2.2.2.2.1.1 hb.2.2.2.2.1.2 W hT⟩ w ht)
  simp only [numS_byt, hanS_byt, lit_byt, byt_app]
  exact congrArg byt (by simp [textW, restW, kindW, opW, yesW, hasH, hasN, hasT, hasA, hasU, hasY, hasE, in3, made, tailW_cons, tailW_nil])

theorem rl_2_6 (wk hn hg nn ng t a u er : Int) (hb : BB wk ∧ BB hn ∧ BB hg ∧ BB nn ∧ BB ng ∧ BB t ∧ BB a ∧ BB u ∧ BB er)
    (hR : evRight 2 wk 6 hn hg nn ng t a u false er = true) (w : World) :
    Calls Tryd.prog 12 #[.agg (evL 2 wk 6 hn hg nn ng t a u false er)] w fun e w' => e = .returned (.string (byt (textW 2 wk 6 hn hg nn ng t a u false er))) ∧ Below w.heap.size w w' := by
  refine cast_text ?_ (rline_2_6 wk hn hg nn ng t a u false er
    (numS_size wk hb.1.1 hb.1.2)
    ⟨fun W => cast_bool hR (right_any 2 wk 6 hn hg nn ng t a u false er W)⟩
    ⟨fun W => cast_bool (show hasH 2 6 = false by simp [hasH, hasN, hasT, hasA, hasU, hasY, hasE, in3, made]) (has_h 2 wk 6 hn hg nn ng t a u false er W)⟩
    ⟨fun W => cast_bool (show hasN 2 6 er = false by simp [hasH, hasN, hasT, hasA, hasU, hasY, hasE, in3, made]) (has_n 2 wk 6 hn hg nn ng t a u false er W)⟩
    ⟨fun W => cast_bool (show hasT 2 6 er = false by simp [hasH, hasN, hasT, hasA, hasU, hasY, hasE, in3, made]) (has_t 2 wk 6 hn hg nn ng t a u false er W)⟩
    ⟨fun W => cast_bool (show hasA 2 6 = false by simp [hasH, hasN, hasT, hasA, hasU, hasY, hasE, in3, made]) (has_a 2 wk 6 hn hg nn ng t a u false er W)⟩
    ⟨fun W => cast_bool (show hasU 2 6 = false by simp [hasH, hasN, hasT, hasA, hasU, hasY, hasE, in3, made]) (has_u 2 wk 6 hn hg nn ng t a u false er W)⟩
    ⟨fun W => cast_bool (show hasY 2 6 = false by simp [hasH, hasN, hasT, hasA, hasU, hasY, hasE, in3, made]) (has_y 2 wk 6 hn hg nn ng t a u false er W)⟩
    ⟨fun W => cast_bool (show hasE 2 6 = false by simp [hasH, hasN, hasT, hasA, hasU, hasY, hasE, in3, made]) (has_e 2 wk 6 hn hg nn ng t a u false er W)⟩
    ⟨fun W => dec_any wk.natAbs wk (Nat.le_refl _) hb.1.1 hb.1.2 W⟩ w)
  simp only [numS_byt, hanS_byt, lit_byt, byt_app]
  exact congrArg byt (by simp [textW, restW, kindW, opW, yesW, hasH, hasN, hasT, hasA, hasU, hasY, hasE, in3, made, tailW_cons, tailW_nil])

theorem el_2_6 (wk hn hg nn ng t a u er : Int) (hb : BB wk ∧ BB hn ∧ BB hg ∧ BB nn ∧ BB ng ∧ BB t ∧ BB a ∧ BB u ∧ BB er)
    (hR : evRight 2 wk 6 hn hg nn ng t a u false er = true) (w : World) (ht : Tab w) :
    Calls Tryd.prog 11 #[.agg (evL 2 wk 6 hn hg nn ng t a u false er)] w fun e w' => e = .returned (.string (byt (textW 2 wk 6 hn hg nn ng t a u false er))) ∧ Below w.heap.size w w' := by
  refine cast_text ?_ (eline_2_6 wk hn hg nn ng t a u er
    (numS_size wk hb.1.1 hb.1.2)
    (numS_size t hb.2.2.2.2.2.1.1 hb.2.2.2.2.2.1.2)
    (numS_size a hb.2.2.2.2.2.2.1.1 hb.2.2.2.2.2.2.1.2)
    (numS_size u hb.2.2.2.2.2.2.2.1.1 hb.2.2.2.2.2.2.2.1.2)
    (numS_size er hb.2.2.2.2.2.2.2.2.1 hb.2.2.2.2.2.2.2.2.2)
    (hanS_size hn hg hb.2.1.1 hb.2.1.2 hb.2.2.1.1 hb.2.2.1.2)
    (hanS_size nn ng hb.2.2.2.1.1 hb.2.2.2.1.2 hb.2.2.2.2.1.1 hb.2.2.2.2.1.2)
    ⟨fun W => cast_bool hR (event_right 2 wk 6 hn hg nn ng t a u false er W)⟩
    ⟨fun W => cast_fields (p' := (0, true)) (by by_cases z : er = 0 <;> simp (decide := true) [fieldsF, pickL, z]) (fields_any 2 wk 6 hn hg nn ng t a u false er W)⟩
    ⟨fun W hT => itoa_any wk hb.1.1 hb.1.2 W hT⟩
    ⟨fun W hT => itoa_any t hb.2.2.2.2.2.1.1 hb.2.2.2.2.2.1.2 W hT⟩
    ⟨fun W hT => itoa_any a hb.2.2.2.2.2.2.1.1 hb.2.2.2.2.2.2.1.2 W hT⟩
    ⟨fun W hT => itoa_any u hb.2.2.2.2.2.2.2.1.1 hb.2.2.2.2.2.2.2.1.2 W hT⟩
    ⟨fun W hT => itoa_any er hb.2.2.2.2.2.2.2.2.1 hb.2.2.2.2.2.2.2.2.2 W hT⟩
    ⟨fun W hT => handle_any hn hg hb.2.1.1 hb.2.1.2 hb.2.2.1.1 hb.2.2.1.2 W hT⟩
    ⟨fun W hT => handle_any nn ng hb.2.2.2.1.1 hb.2.2.2.1.2 hb.2.2.2.2.1.1 hb.2.2.2.2.1.2 W hT⟩ w ht)
  simp only [numS_byt, hanS_byt, lit_byt, byt_app]
  exact congrArg byt (by simp [textW, restW, kindW, opW, yesW, hasH, hasN, hasT, hasA, hasU, hasY, hasE, in3, made, tailW_cons, tailW_nil])

theorem rl_2_7 (wk hn hg nn ng t a u er : Int) (hb : BB wk ∧ BB hn ∧ BB hg ∧ BB nn ∧ BB ng ∧ BB t ∧ BB a ∧ BB u ∧ BB er)
    (hR : evRight 2 wk 7 hn hg nn ng t a u false er = true) (w : World) :
    Calls Tryd.prog 12 #[.agg (evL 2 wk 7 hn hg nn ng t a u false er)] w fun e w' => e = .returned (.string (byt (textW 2 wk 7 hn hg nn ng t a u false er))) ∧ Below w.heap.size w w' := by
  refine cast_text ?_ (rline_2_7 wk hn hg nn ng t a u false er
    (numS_size wk hb.1.1 hb.1.2)
    ⟨fun W => cast_bool hR (right_any 2 wk 7 hn hg nn ng t a u false er W)⟩
    ⟨fun W => cast_bool (show hasH 2 7 = false by simp [hasH, hasN, hasT, hasA, hasU, hasY, hasE, in3, made]) (has_h 2 wk 7 hn hg nn ng t a u false er W)⟩
    ⟨fun W => cast_bool (show hasN 2 7 er = false by simp [hasH, hasN, hasT, hasA, hasU, hasY, hasE, in3, made]) (has_n 2 wk 7 hn hg nn ng t a u false er W)⟩
    ⟨fun W => cast_bool (show hasT 2 7 er = false by simp [hasH, hasN, hasT, hasA, hasU, hasY, hasE, in3, made]) (has_t 2 wk 7 hn hg nn ng t a u false er W)⟩
    ⟨fun W => cast_bool (show hasA 2 7 = false by simp [hasH, hasN, hasT, hasA, hasU, hasY, hasE, in3, made]) (has_a 2 wk 7 hn hg nn ng t a u false er W)⟩
    ⟨fun W => cast_bool (show hasU 2 7 = false by simp [hasH, hasN, hasT, hasA, hasU, hasY, hasE, in3, made]) (has_u 2 wk 7 hn hg nn ng t a u false er W)⟩
    ⟨fun W => cast_bool (show hasY 2 7 = false by simp [hasH, hasN, hasT, hasA, hasU, hasY, hasE, in3, made]) (has_y 2 wk 7 hn hg nn ng t a u false er W)⟩
    ⟨fun W => cast_bool (show hasE 2 7 = false by simp [hasH, hasN, hasT, hasA, hasU, hasY, hasE, in3, made]) (has_e 2 wk 7 hn hg nn ng t a u false er W)⟩
    ⟨fun W => dec_any wk.natAbs wk (Nat.le_refl _) hb.1.1 hb.1.2 W⟩ w)
  simp only [numS_byt, hanS_byt, lit_byt, byt_app]
  exact congrArg byt (by simp [textW, restW, kindW, opW, yesW, hasH, hasN, hasT, hasA, hasU, hasY, hasE, in3, made, tailW_cons, tailW_nil])

theorem el_2_7 (wk hn hg nn ng t a u er : Int) (hb : BB wk ∧ BB hn ∧ BB hg ∧ BB nn ∧ BB ng ∧ BB t ∧ BB a ∧ BB u ∧ BB er)
    (hR : evRight 2 wk 7 hn hg nn ng t a u false er = true) (w : World) (ht : Tab w) :
    Calls Tryd.prog 11 #[.agg (evL 2 wk 7 hn hg nn ng t a u false er)] w fun e w' => e = .returned (.string (byt (textW 2 wk 7 hn hg nn ng t a u false er))) ∧ Below w.heap.size w w' := by
  refine cast_text ?_ (eline_2_7 wk hn hg nn ng t a u er
    (numS_size wk hb.1.1 hb.1.2)
    (numS_size t hb.2.2.2.2.2.1.1 hb.2.2.2.2.2.1.2)
    (numS_size a hb.2.2.2.2.2.2.1.1 hb.2.2.2.2.2.2.1.2)
    (numS_size u hb.2.2.2.2.2.2.2.1.1 hb.2.2.2.2.2.2.2.1.2)
    (numS_size er hb.2.2.2.2.2.2.2.2.1 hb.2.2.2.2.2.2.2.2.2)
    (hanS_size hn hg hb.2.1.1 hb.2.1.2 hb.2.2.1.1 hb.2.2.1.2)
    (hanS_size nn ng hb.2.2.2.1.1 hb.2.2.2.1.2 hb.2.2.2.2.1.1 hb.2.2.2.2.1.2)
    ⟨fun W => cast_bool hR (event_right 2 wk 7 hn hg nn ng t a u false er W)⟩
    ⟨fun W => cast_fields (p' := (0, true)) (by by_cases z : er = 0 <;> simp (decide := true) [fieldsF, pickL, z]) (fields_any 2 wk 7 hn hg nn ng t a u false er W)⟩
    ⟨fun W hT => itoa_any wk hb.1.1 hb.1.2 W hT⟩
    ⟨fun W hT => itoa_any t hb.2.2.2.2.2.1.1 hb.2.2.2.2.2.1.2 W hT⟩
    ⟨fun W hT => itoa_any a hb.2.2.2.2.2.2.1.1 hb.2.2.2.2.2.2.1.2 W hT⟩
    ⟨fun W hT => itoa_any u hb.2.2.2.2.2.2.2.1.1 hb.2.2.2.2.2.2.2.1.2 W hT⟩
    ⟨fun W hT => itoa_any er hb.2.2.2.2.2.2.2.2.1 hb.2.2.2.2.2.2.2.2.2 W hT⟩
    ⟨fun W hT => handle_any hn hg hb.2.1.1 hb.2.1.2 hb.2.2.1.1 hb.2.2.1.2 W hT⟩
    ⟨fun W hT => handle_any nn ng hb.2.2.2.1.1 hb.2.2.2.1.2 hb.2.2.2.2.1.1 hb.2.2.2.2.1.2 W hT⟩ w ht)
  simp only [numS_byt, hanS_byt, lit_byt, byt_app]
  exact congrArg byt (by simp [textW, restW, kindW, opW, yesW, hasH, hasN, hasT, hasA, hasU, hasY, hasE, in3, made, tailW_cons, tailW_nil])

theorem rl_3_1_ok (wk hn hg nn ng t a u er : Int) (he : (er == 0) = true) (hb : BB wk ∧ BB hn ∧ BB hg ∧ BB nn ∧ BB ng ∧ BB t ∧ BB a ∧ BB u ∧ BB er)
    (hR : evRight 3 wk 1 hn hg nn ng t a u false er = true) (w : World) :
    Calls Tryd.prog 12 #[.agg (evL 3 wk 1 hn hg nn ng t a u false er)] w fun e w' => e = .returned (.string (byt (textW 3 wk 1 hn hg nn ng t a u false er))) ∧ Below w.heap.size w w' := by
  have hz : er = 0 := by simpa using he
  refine cast_text ?_ (rline_3_1_ok wk hn hg nn ng t a u false er
    (numS_size wk hb.1.1 hb.1.2)
    (numS_size t hb.2.2.2.2.2.1.1 hb.2.2.2.2.2.1.2)
    (numS_size er hb.2.2.2.2.2.2.2.2.1 hb.2.2.2.2.2.2.2.2.2)
    (hanS_size nn ng hb.2.2.2.1.1 hb.2.2.2.1.2 hb.2.2.2.2.1.1 hb.2.2.2.2.1.2)
    ⟨fun W => cast_bool hR (right_any 3 wk 1 hn hg nn ng t a u false er W)⟩
    ⟨fun W => cast_bool (show hasH 3 1 = false by simp [hasH, hasN, hasT, hasA, hasU, hasY, hasE, in3, made, he]) (has_h 3 wk 1 hn hg nn ng t a u false er W)⟩
    ⟨fun W => cast_bool (show hasN 3 1 er = true by simp [hasH, hasN, hasT, hasA, hasU, hasY, hasE, in3, made, he]) (has_n 3 wk 1 hn hg nn ng t a u false er W)⟩
    ⟨fun W => cast_bool (show hasT 3 1 er = true by simp [hasH, hasN, hasT, hasA, hasU, hasY, hasE, in3, made, he]) (has_t 3 wk 1 hn hg nn ng t a u false er W)⟩
    ⟨fun W => cast_bool (show hasA 3 1 = false by simp [hasH, hasN, hasT, hasA, hasU, hasY, hasE, in3, made, he]) (has_a 3 wk 1 hn hg nn ng t a u false er W)⟩
    ⟨fun W => cast_bool (show hasU 3 1 = false by simp [hasH, hasN, hasT, hasA, hasU, hasY, hasE, in3, made, he]) (has_u 3 wk 1 hn hg nn ng t a u false er W)⟩
    ⟨fun W => cast_bool (show hasY 3 1 = false by simp [hasH, hasN, hasT, hasA, hasU, hasY, hasE, in3, made, he]) (has_y 3 wk 1 hn hg nn ng t a u false er W)⟩
    ⟨fun W => cast_bool (show hasE 3 1 = true by simp [hasH, hasN, hasT, hasA, hasU, hasY, hasE, in3, made, he]) (has_e 3 wk 1 hn hg nn ng t a u false er W)⟩
    ⟨fun W => dec_any wk.natAbs wk (Nat.le_refl _) hb.1.1 hb.1.2 W⟩
    ⟨fun W => dec_any t.natAbs t (Nat.le_refl _) hb.2.2.2.2.2.1.1 hb.2.2.2.2.2.1.2 W⟩
    ⟨fun W => dec_any er.natAbs er (Nat.le_refl _) hb.2.2.2.2.2.2.2.2.1 hb.2.2.2.2.2.2.2.2.2 W⟩
    ⟨fun W => ref_handle_any nn ng hb.2.2.2.1.1 hb.2.2.2.1.2 hb.2.2.2.2.1.1 hb.2.2.2.2.1.2 W⟩ w)
  simp only [numS_byt, hanS_byt, lit_byt, byt_app]
  exact congrArg byt (by simp [textW, restW, kindW, opW, yesW, hasH, hasN, hasT, hasA, hasU, hasY, hasE, in3, made, tailW_cons, tailW_nil, he])

theorem el_3_1_ok (wk hn hg nn ng t a u er : Int) (he : (er == 0) = true) (hb : BB wk ∧ BB hn ∧ BB hg ∧ BB nn ∧ BB ng ∧ BB t ∧ BB a ∧ BB u ∧ BB er)
    (hR : evRight 3 wk 1 hn hg nn ng t a u false er = true) (w : World) (ht : Tab w) :
    Calls Tryd.prog 11 #[.agg (evL 3 wk 1 hn hg nn ng t a u false er)] w fun e w' => e = .returned (.string (byt (textW 3 wk 1 hn hg nn ng t a u false er))) ∧ Below w.heap.size w w' := by
  have hz : er = 0 := by simpa using he
  refine cast_text ?_ (eline_3_1_ok wk hn hg nn ng t a u er
    (numS_size wk hb.1.1 hb.1.2)
    (numS_size t hb.2.2.2.2.2.1.1 hb.2.2.2.2.2.1.2)
    (numS_size a hb.2.2.2.2.2.2.1.1 hb.2.2.2.2.2.2.1.2)
    (numS_size u hb.2.2.2.2.2.2.2.1.1 hb.2.2.2.2.2.2.2.1.2)
    (numS_size er hb.2.2.2.2.2.2.2.2.1 hb.2.2.2.2.2.2.2.2.2)
    (hanS_size hn hg hb.2.1.1 hb.2.1.2 hb.2.2.1.1 hb.2.2.1.2)
    (hanS_size nn ng hb.2.2.2.1.1 hb.2.2.2.1.2 hb.2.2.2.2.1.1 hb.2.2.2.2.1.2)
    ⟨fun W => cast_bool hR (event_right 3 wk 1 hn hg nn ng t a u false er W)⟩
    ⟨fun W => cast_fields (p' := (70, true)) (by simp (decide := true) [fieldsF, pickL, hz]) (fields_any 3 wk 1 hn hg nn ng t a u false er W)⟩
    ⟨fun W hT => itoa_any wk hb.1.1 hb.1.2 W hT⟩
    ⟨fun W hT => itoa_any t hb.2.2.2.2.2.1.1 hb.2.2.2.2.2.1.2 W hT⟩
    ⟨fun W hT => itoa_any a hb.2.2.2.2.2.2.1.1 hb.2.2.2.2.2.2.1.2 W hT⟩
    ⟨fun W hT => itoa_any u hb.2.2.2.2.2.2.2.1.1 hb.2.2.2.2.2.2.2.1.2 W hT⟩
    ⟨fun W hT => itoa_any er hb.2.2.2.2.2.2.2.2.1 hb.2.2.2.2.2.2.2.2.2 W hT⟩
    ⟨fun W hT => handle_any hn hg hb.2.1.1 hb.2.1.2 hb.2.2.1.1 hb.2.2.1.2 W hT⟩
    ⟨fun W hT => handle_any nn ng hb.2.2.2.1.1 hb.2.2.2.1.2 hb.2.2.2.2.1.1 hb.2.2.2.2.1.2 W hT⟩ w ht)
  simp only [numS_byt, hanS_byt, lit_byt, byt_app]
  exact congrArg byt (by simp [textW, restW, kindW, opW, yesW, hasH, hasN, hasT, hasA, hasU, hasY, hasE, in3, made, tailW_cons, tailW_nil, he])

theorem rl_3_1_no (wk hn hg nn ng t a u er : Int) (he : (er == 0) = false) (hb : BB wk ∧ BB hn ∧ BB hg ∧ BB nn ∧ BB ng ∧ BB t ∧ BB a ∧ BB u ∧ BB er)
    (hR : evRight 3 wk 1 hn hg nn ng t a u false er = true) (w : World) :
    Calls Tryd.prog 12 #[.agg (evL 3 wk 1 hn hg nn ng t a u false er)] w fun e w' => e = .returned (.string (byt (textW 3 wk 1 hn hg nn ng t a u false er))) ∧ Below w.heap.size w w' := by
  have hz : ¬ er = 0 := by simpa using he
  refine cast_text ?_ (rline_3_1_no wk hn hg nn ng t a u false er
    (numS_size wk hb.1.1 hb.1.2)
    (numS_size er hb.2.2.2.2.2.2.2.2.1 hb.2.2.2.2.2.2.2.2.2)
    ⟨fun W => cast_bool hR (right_any 3 wk 1 hn hg nn ng t a u false er W)⟩
    ⟨fun W => cast_bool (show hasH 3 1 = false by simp [hasH, hasN, hasT, hasA, hasU, hasY, hasE, in3, made, he]) (has_h 3 wk 1 hn hg nn ng t a u false er W)⟩
    ⟨fun W => cast_bool (show hasN 3 1 er = false by simp [hasH, hasN, hasT, hasA, hasU, hasY, hasE, in3, made, he]) (has_n 3 wk 1 hn hg nn ng t a u false er W)⟩
    ⟨fun W => cast_bool (show hasT 3 1 er = false by simp [hasH, hasN, hasT, hasA, hasU, hasY, hasE, in3, made, he]) (has_t 3 wk 1 hn hg nn ng t a u false er W)⟩
    ⟨fun W => cast_bool (show hasA 3 1 = false by simp [hasH, hasN, hasT, hasA, hasU, hasY, hasE, in3, made, he]) (has_a 3 wk 1 hn hg nn ng t a u false er W)⟩
    ⟨fun W => cast_bool (show hasU 3 1 = false by simp [hasH, hasN, hasT, hasA, hasU, hasY, hasE, in3, made, he]) (has_u 3 wk 1 hn hg nn ng t a u false er W)⟩
    ⟨fun W => cast_bool (show hasY 3 1 = false by simp [hasH, hasN, hasT, hasA, hasU, hasY, hasE, in3, made, he]) (has_y 3 wk 1 hn hg nn ng t a u false er W)⟩
    ⟨fun W => cast_bool (show hasE 3 1 = true by simp [hasH, hasN, hasT, hasA, hasU, hasY, hasE, in3, made, he]) (has_e 3 wk 1 hn hg nn ng t a u false er W)⟩
    ⟨fun W => dec_any wk.natAbs wk (Nat.le_refl _) hb.1.1 hb.1.2 W⟩
    ⟨fun W => dec_any er.natAbs er (Nat.le_refl _) hb.2.2.2.2.2.2.2.2.1 hb.2.2.2.2.2.2.2.2.2 W⟩ w)
  simp only [numS_byt, hanS_byt, lit_byt, byt_app]
  exact congrArg byt (by simp [textW, restW, kindW, opW, yesW, hasH, hasN, hasT, hasA, hasU, hasY, hasE, in3, made, tailW_cons, tailW_nil, he])

theorem el_3_1_no (wk hn hg nn ng t a u er : Int) (he : (er == 0) = false) (hb : BB wk ∧ BB hn ∧ BB hg ∧ BB nn ∧ BB ng ∧ BB t ∧ BB a ∧ BB u ∧ BB er)
    (hR : evRight 3 wk 1 hn hg nn ng t a u false er = true) (w : World) (ht : Tab w) :
    Calls Tryd.prog 11 #[.agg (evL 3 wk 1 hn hg nn ng t a u false er)] w fun e w' => e = .returned (.string (byt (textW 3 wk 1 hn hg nn ng t a u false er))) ∧ Below w.heap.size w w' := by
  have hz : ¬ er = 0 := by simpa using he
  refine cast_text ?_ (eline_3_1_no wk hn hg nn ng t a u er
    (numS_size wk hb.1.1 hb.1.2)
    (numS_size t hb.2.2.2.2.2.1.1 hb.2.2.2.2.2.1.2)
    (numS_size a hb.2.2.2.2.2.2.1.1 hb.2.2.2.2.2.2.1.2)
    (numS_size u hb.2.2.2.2.2.2.2.1.1 hb.2.2.2.2.2.2.2.1.2)
    (numS_size er hb.2.2.2.2.2.2.2.2.1 hb.2.2.2.2.2.2.2.2.2)
    (hanS_size hn hg hb.2.1.1 hb.2.1.2 hb.2.2.1.1 hb.2.2.1.2)
    (hanS_size nn ng hb.2.2.2.1.1 hb.2.2.2.1.2 hb.2.2.2.2.1.1 hb.2.2.2.2.1.2)
    ⟨fun W => cast_bool hR (event_right 3 wk 1 hn hg nn ng t a u false er W)⟩
    ⟨fun W => cast_fields (p' := (64, true)) (by simp (decide := true) [fieldsF, pickL, hz]) (fields_any 3 wk 1 hn hg nn ng t a u false er W)⟩
    ⟨fun W hT => itoa_any wk hb.1.1 hb.1.2 W hT⟩
    ⟨fun W hT => itoa_any t hb.2.2.2.2.2.1.1 hb.2.2.2.2.2.1.2 W hT⟩
    ⟨fun W hT => itoa_any a hb.2.2.2.2.2.2.1.1 hb.2.2.2.2.2.2.1.2 W hT⟩
    ⟨fun W hT => itoa_any u hb.2.2.2.2.2.2.2.1.1 hb.2.2.2.2.2.2.2.1.2 W hT⟩
    ⟨fun W hT => itoa_any er hb.2.2.2.2.2.2.2.2.1 hb.2.2.2.2.2.2.2.2.2 W hT⟩
    ⟨fun W hT => handle_any hn hg hb.2.1.1 hb.2.1.2 hb.2.2.1.1 hb.2.2.1.2 W hT⟩
    ⟨fun W hT => handle_any nn ng hb.2.2.2.1.1 hb.2.2.2.1.2 hb.2.2.2.2.1.1 hb.2.2.2.2.1.2 W hT⟩ w ht)
  simp only [numS_byt, hanS_byt, lit_byt, byt_app]
  exact congrArg byt (by simp [textW, restW, kindW, opW, yesW, hasH, hasN, hasT, hasA, hasU, hasY, hasE, in3, made, tailW_cons, tailW_nil, he])

theorem rl_3_2_yes (wk hn hg nn ng t a u er : Int) (hb : BB wk ∧ BB hn ∧ BB hg ∧ BB nn ∧ BB ng ∧ BB t ∧ BB a ∧ BB u ∧ BB er)
    (hR : evRight 3 wk 2 hn hg nn ng t a u true er = true) (w : World) :
    Calls Tryd.prog 12 #[.agg (evL 3 wk 2 hn hg nn ng t a u true er)] w fun e w' => e = .returned (.string (byt (textW 3 wk 2 hn hg nn ng t a u true er))) ∧ Below w.heap.size w w' := by
  refine cast_text ?_ (rline_3_2_yes wk hn hg nn ng t a u true er
    (numS_size wk hb.1.1 hb.1.2)
    (hanS_size hn hg hb.2.1.1 hb.2.1.2 hb.2.2.1.1 hb.2.2.1.2)
    ⟨fun W => cast_bool hR (right_any 3 wk 2 hn hg nn ng t a u true er W)⟩
    ⟨fun W => cast_bool (show hasH 3 2 = true by simp [hasH, hasN, hasT, hasA, hasU, hasY, hasE, in3, made]) (has_h 3 wk 2 hn hg nn ng t a u true er W)⟩
    ⟨fun W => cast_bool (show hasN 3 2 er = false by simp [hasH, hasN, hasT, hasA, hasU, hasY, hasE, in3, made]) (has_n 3 wk 2 hn hg nn ng t a u true er W)⟩
    ⟨fun W => cast_bool (show hasT 3 2 er = false by simp [hasH, hasN, hasT, hasA, hasU, hasY, hasE, in3, made]) (has_t 3 wk 2 hn hg nn ng t a u true er W)⟩
    ⟨fun W => cast_bool (show hasA 3 2 = false by simp [hasH, hasN, hasT, hasA, hasU, hasY, hasE, in3, made]) (has_a 3 wk 2 hn hg nn ng t a u true er W)⟩
    ⟨fun W => cast_bool (show hasU 3 2 = false by simp [hasH, hasN, hasT, hasA, hasU, hasY, hasE, in3, made]) (has_u 3 wk 2 hn hg nn ng t a u true er W)⟩
    ⟨fun W => cast_bool (show hasY 3 2 = true by simp [hasH, hasN, hasT, hasA, hasU, hasY, hasE, in3, made]) (has_y 3 wk 2 hn hg nn ng t a u true er W)⟩
    ⟨fun W => cast_bool (show hasE 3 2 = false by simp [hasH, hasN, hasT, hasA, hasU, hasY, hasE, in3, made]) (has_e 3 wk 2 hn hg nn ng t a u true er W)⟩
    ⟨fun W => dec_any wk.natAbs wk (Nat.le_refl _) hb.1.1 hb.1.2 W⟩
    ⟨fun W => ref_handle_any hn hg hb.2.1.1 hb.2.1.2 hb.2.2.1.1 hb.2.2.1.2 W⟩ w)
  simp only [numS_byt, hanS_byt, lit_byt, byt_app]
  exact congrArg byt (by simp [textW, restW, kindW, opW, yesW, hasH, hasN, hasT, hasA, hasU, hasY, hasE, in3, made, tailW_cons, tailW_nil])

theorem el_3_2_yes (wk hn hg nn ng t a u er : Int) (hb : BB wk ∧ BB hn ∧ BB hg ∧ BB nn ∧ BB ng ∧ BB t ∧ BB a ∧ BB u ∧ BB er)
    (hR : evRight 3 wk 2 hn hg nn ng t a u true er = true) (w : World) (ht : Tab w) :
    Calls Tryd.prog 11 #[.agg (evL 3 wk 2 hn hg nn ng t a u true er)] w fun e w' => e = .returned (.string (byt (textW 3 wk 2 hn hg nn ng t a u true er))) ∧ Below w.heap.size w w' := by
  refine cast_text ?_ (eline_3_2_yes wk hn hg nn ng t a u er
    (numS_size wk hb.1.1 hb.1.2)
    (numS_size t hb.2.2.2.2.2.1.1 hb.2.2.2.2.2.1.2)
    (numS_size a hb.2.2.2.2.2.2.1.1 hb.2.2.2.2.2.2.1.2)
    (numS_size u hb.2.2.2.2.2.2.2.1.1 hb.2.2.2.2.2.2.2.1.2)
    (numS_size er hb.2.2.2.2.2.2.2.2.1 hb.2.2.2.2.2.2.2.2.2)
    (hanS_size hn hg hb.2.1.1 hb.2.1.2 hb.2.2.1.1 hb.2.2.1.2)
    (hanS_size nn ng hb.2.2.2.1.1 hb.2.2.2.1.2 hb.2.2.2.2.1.1 hb.2.2.2.2.1.2)
    ⟨fun W => cast_bool hR (event_right 3 wk 2 hn hg nn ng t a u true er W)⟩
    ⟨fun W => cast_fields (p' := (33, true)) (by by_cases z : er = 0 <;> simp (decide := true) [fieldsF, pickL, z]) (fields_any 3 wk 2 hn hg nn ng t a u true er W)⟩
    ⟨fun W hT => itoa_any wk hb.1.1 hb.1.2 W hT⟩
    ⟨fun W hT => itoa_any t hb.2.2.2.2.2.1.1 hb.2.2.2.2.2.1.2 W hT⟩
    ⟨fun W hT => itoa_any a hb.2.2.2.2.2.2.1.1 hb.2.2.2.2.2.2.1.2 W hT⟩
    ⟨fun W hT => itoa_any u hb.2.2.2.2.2.2.2.1.1 hb.2.2.2.2.2.2.2.1.2 W hT⟩
    ⟨fun W hT => itoa_any er hb.2.2.2.2.2.2.2.2.1 hb.2.2.2.2.2.2.2.2.2 W hT⟩
    ⟨fun W hT => handle_any hn hg hb.2.1.1 hb.2.1.2 hb.2.2.1.1 hb.2.2.1.2 W hT⟩
    ⟨fun W hT => handle_any nn ng hb.2.2.2.1.1 hb.2.2.2.1.2 hb.2.2.2.2.1.1 hb.2.2.2.2.1.2 W hT⟩ w ht)
  simp only [numS_byt, hanS_byt, lit_byt, byt_app]
  exact congrArg byt (by simp [textW, restW, kindW, opW, yesW, hasH, hasN, hasT, hasA, hasU, hasY, hasE, in3, made, tailW_cons, tailW_nil])

theorem rl_3_2_not (wk hn hg nn ng t a u er : Int) (hb : BB wk ∧ BB hn ∧ BB hg ∧ BB nn ∧ BB ng ∧ BB t ∧ BB a ∧ BB u ∧ BB er)
    (hR : evRight 3 wk 2 hn hg nn ng t a u false er = true) (w : World) :
    Calls Tryd.prog 12 #[.agg (evL 3 wk 2 hn hg nn ng t a u false er)] w fun e w' => e = .returned (.string (byt (textW 3 wk 2 hn hg nn ng t a u false er))) ∧ Below w.heap.size w w' := by
  refine cast_text ?_ (rline_3_2_not wk hn hg nn ng t a u false er
    (numS_size wk hb.1.1 hb.1.2)
    (hanS_size hn hg hb.2.1.1 hb.2.1.2 hb.2.2.1.1 hb.2.2.1.2)
    ⟨fun W => cast_bool hR (right_any 3 wk 2 hn hg nn ng t a u false er W)⟩
    ⟨fun W => cast_bool (show hasH 3 2 = true by simp [hasH, hasN, hasT, hasA, hasU, hasY, hasE, in3, made]) (has_h 3 wk 2 hn hg nn ng t a u false er W)⟩
    ⟨fun W => cast_bool (show hasN 3 2 er = false by simp [hasH, hasN, hasT, hasA, hasU, hasY, hasE, in3, made]) (has_n 3 wk 2 hn hg nn ng t a u false er W)⟩
    ⟨fun W => cast_bool (show hasT 3 2 er = false by simp [hasH, hasN, hasT, hasA, hasU, hasY, hasE, in3, made]) (has_t 3 wk 2 hn hg nn ng t a u false er W)⟩
    ⟨fun W => cast_bool (show hasA 3 2 = false by simp [hasH, hasN, hasT, hasA, hasU, hasY, hasE, in3, made]) (has_a 3 wk 2 hn hg nn ng t a u false er W)⟩
    ⟨fun W => cast_bool (show hasU 3 2 = false by simp [hasH, hasN, hasT, hasA, hasU, hasY, hasE, in3, made]) (has_u 3 wk 2 hn hg nn ng t a u false er W)⟩
    ⟨fun W => cast_bool (show hasY 3 2 = true by simp [hasH, hasN, hasT, hasA, hasU, hasY, hasE, in3, made]) (has_y 3 wk 2 hn hg nn ng t a u false er W)⟩
    ⟨fun W => cast_bool (show hasE 3 2 = false by simp [hasH, hasN, hasT, hasA, hasU, hasY, hasE, in3, made]) (has_e 3 wk 2 hn hg nn ng t a u false er W)⟩
    ⟨fun W => dec_any wk.natAbs wk (Nat.le_refl _) hb.1.1 hb.1.2 W⟩
    ⟨fun W => ref_handle_any hn hg hb.2.1.1 hb.2.1.2 hb.2.2.1.1 hb.2.2.1.2 W⟩ w)
  simp only [numS_byt, hanS_byt, lit_byt, byt_app]
  exact congrArg byt (by simp [textW, restW, kindW, opW, yesW, hasH, hasN, hasT, hasA, hasU, hasY, hasE, in3, made, tailW_cons, tailW_nil])

theorem el_3_2_not (wk hn hg nn ng t a u er : Int) (hb : BB wk ∧ BB hn ∧ BB hg ∧ BB nn ∧ BB ng ∧ BB t ∧ BB a ∧ BB u ∧ BB er)
    (hR : evRight 3 wk 2 hn hg nn ng t a u false er = true) (w : World) (ht : Tab w) :
    Calls Tryd.prog 11 #[.agg (evL 3 wk 2 hn hg nn ng t a u false er)] w fun e w' => e = .returned (.string (byt (textW 3 wk 2 hn hg nn ng t a u false er))) ∧ Below w.heap.size w w' := by
  refine cast_text ?_ (eline_3_2_not wk hn hg nn ng t a u er
    (numS_size wk hb.1.1 hb.1.2)
    (numS_size t hb.2.2.2.2.2.1.1 hb.2.2.2.2.2.1.2)
    (numS_size a hb.2.2.2.2.2.2.1.1 hb.2.2.2.2.2.2.1.2)
    (numS_size u hb.2.2.2.2.2.2.2.1.1 hb.2.2.2.2.2.2.2.1.2)
    (numS_size er hb.2.2.2.2.2.2.2.2.1 hb.2.2.2.2.2.2.2.2.2)
    (hanS_size hn hg hb.2.1.1 hb.2.1.2 hb.2.2.1.1 hb.2.2.1.2)
    (hanS_size nn ng hb.2.2.2.1.1 hb.2.2.2.1.2 hb.2.2.2.2.1.1 hb.2.2.2.2.1.2)
    ⟨fun W => cast_bool hR (event_right 3 wk 2 hn hg nn ng t a u false er W)⟩
    ⟨fun W => cast_fields (p' := (33, true)) (by by_cases z : er = 0 <;> simp (decide := true) [fieldsF, pickL, z]) (fields_any 3 wk 2 hn hg nn ng t a u false er W)⟩
    ⟨fun W hT => itoa_any wk hb.1.1 hb.1.2 W hT⟩
    ⟨fun W hT => itoa_any t hb.2.2.2.2.2.1.1 hb.2.2.2.2.2.1.2 W hT⟩
    ⟨fun W hT => itoa_any a hb.2.2.2.2.2.2.1.1 hb.2.2.2.2.2.2.1.2 W hT⟩
    ⟨fun W hT => itoa_any u hb.2.2.2.2.2.2.2.1.1 hb.2.2.2.2.2.2.2.1.2 W hT⟩
    ⟨fun W hT => itoa_any er hb.2.2.2.2.2.2.2.2.1 hb.2.2.2.2.2.2.2.2.2 W hT⟩
    ⟨fun W hT => handle_any hn hg hb.2.1.1 hb.2.1.2 hb.2.2.1.1 hb.2.2.1.2 W hT⟩
    ⟨fun W hT => handle_any nn ng hb.2.2.2.1.1 hb.2.2.2.1.2 hb.2.2.2.2.1.1 hb.2.2.2.2.1.2 W hT⟩ w ht)
  simp only [numS_byt, hanS_byt, lit_byt, byt_app]
  exact congrArg byt (by simp [textW, restW, kindW, opW, yesW, hasH, hasN, hasT, hasA, hasU, hasY, hasE, in3, made, tailW_cons, tailW_nil])

theorem rl_3_3_ok (wk hn hg nn ng t a u er : Int) (he : (er == 0) = true) (hb : BB wk ∧ BB hn ∧ BB hg ∧ BB nn ∧ BB ng ∧ BB t ∧ BB a ∧ BB u ∧ BB er)
    (hR : evRight 3 wk 3 hn hg nn ng t a u false er = true) (w : World) :
    Calls Tryd.prog 12 #[.agg (evL 3 wk 3 hn hg nn ng t a u false er)] w fun e w' => e = .returned (.string (byt (textW 3 wk 3 hn hg nn ng t a u false er))) ∧ Below w.heap.size w w' := by
  have hz : er = 0 := by simpa using he
  refine cast_text ?_ (rline_3_3_ok wk hn hg nn ng t a u false er
    (numS_size wk hb.1.1 hb.1.2)
    (numS_size t hb.2.2.2.2.2.1.1 hb.2.2.2.2.2.1.2)
    (numS_size er hb.2.2.2.2.2.2.2.2.1 hb.2.2.2.2.2.2.2.2.2)
    (hanS_size hn hg hb.2.1.1 hb.2.1.2 hb.2.2.1.1 hb.2.2.1.2)
    (hanS_size nn ng hb.2.2.2.1.1 hb.2.2.2.1.2 hb.2.2.2.2.1.1 hb.2.2.2.2.1.2)
    ⟨fun W => cast_bool hR (right_any 3 wk 3 hn hg nn ng t a u false er W)⟩
    ⟨fun W => cast_bool (show hasH 3 3 = true by simp [hasH, hasN, hasT, hasA, hasU, hasY, hasE, in3, made, he]) (has_h 3 wk 3 hn hg nn ng t a u false er W)⟩
    ⟨fun W => cast_bool (show hasN 3 3 er = true by simp [hasH, hasN, hasT, hasA, hasU, hasY, hasE, in3, made, he]) (has_n 3 wk 3 hn hg nn ng t a u false er W)⟩
    ⟨fun W => cast_bool (show hasT 3 3 er = true by simp [hasH, hasN, hasT, hasA, hasU, hasY, hasE, in3, made, he]) (has_t 3 wk 3 hn hg nn ng t a u false er W)⟩
    ⟨fun W => cast_bool (show hasA 3 3 = false by simp [hasH, hasN, hasT, hasA, hasU, hasY, hasE, in3, made, he]) (has_a 3 wk 3 hn hg nn ng t a u false er W)⟩
    ⟨fun W => cast_bool (show hasU 3 3 = false by simp [hasH, hasN, hasT, hasA, hasU, hasY, hasE, in3, made, he]) (has_u 3 wk 3 hn hg nn ng t a u false er W)⟩
    ⟨fun W => cast_bool (show hasY 3 3 = false by simp [hasH, hasN, hasT, hasA, hasU, hasY, hasE, in3, made, he]) (has_y 3 wk 3 hn hg nn ng t a u false er W)⟩
    ⟨fun W => cast_bool (show hasE 3 3 = true by simp [hasH, hasN, hasT, hasA, hasU, hasY, hasE, in3, made, he]) (has_e 3 wk 3 hn hg nn ng t a u false er W)⟩
    ⟨fun W => dec_any wk.natAbs wk (Nat.le_refl _) hb.1.1 hb.1.2 W⟩
    ⟨fun W => dec_any t.natAbs t (Nat.le_refl _) hb.2.2.2.2.2.1.1 hb.2.2.2.2.2.1.2 W⟩
    ⟨fun W => dec_any er.natAbs er (Nat.le_refl _) hb.2.2.2.2.2.2.2.2.1 hb.2.2.2.2.2.2.2.2.2 W⟩
    ⟨fun W => ref_handle_any hn hg hb.2.1.1 hb.2.1.2 hb.2.2.1.1 hb.2.2.1.2 W⟩
    ⟨fun W => ref_handle_any nn ng hb.2.2.2.1.1 hb.2.2.2.1.2 hb.2.2.2.2.1.1 hb.2.2.2.2.1.2 W⟩ w)
  simp only [numS_byt, hanS_byt, lit_byt, byt_app]
  exact congrArg byt (by simp [textW, restW, kindW, opW, yesW, hasH, hasN, hasT, hasA, hasU, hasY, hasE, in3, made, tailW_cons, tailW_nil, he])

theorem el_3_3_ok (wk hn hg nn ng t a u er : Int) (he : (er == 0) = true) (hb : BB wk ∧ BB hn ∧ BB hg ∧ BB nn ∧ BB ng ∧ BB t ∧ BB a ∧ BB u ∧ BB er)
    (hR : evRight 3 wk 3 hn hg nn ng t a u false er = true) (w : World) (ht : Tab w) :
    Calls Tryd.prog 11 #[.agg (evL 3 wk 3 hn hg nn ng t a u false er)] w fun e w' => e = .returned (.string (byt (textW 3 wk 3 hn hg nn ng t a u false er))) ∧ Below w.heap.size w w' := by
  have hz : er = 0 := by simpa using he
  refine cast_text ?_ (eline_3_3_ok wk hn hg nn ng t a u er
    (numS_size wk hb.1.1 hb.1.2)
    (numS_size t hb.2.2.2.2.2.1.1 hb.2.2.2.2.2.1.2)
    (numS_size a hb.2.2.2.2.2.2.1.1 hb.2.2.2.2.2.2.1.2)
    (numS_size u hb.2.2.2.2.2.2.2.1.1 hb.2.2.2.2.2.2.2.1.2)
    (numS_size er hb.2.2.2.2.2.2.2.2.1 hb.2.2.2.2.2.2.2.2.2)
    (hanS_size hn hg hb.2.1.1 hb.2.1.2 hb.2.2.1.1 hb.2.2.1.2)
    (hanS_size nn ng hb.2.2.2.1.1 hb.2.2.2.1.2 hb.2.2.2.2.1.1 hb.2.2.2.2.1.2)
    ⟨fun W => cast_bool hR (event_right 3 wk 3 hn hg nn ng t a u false er W)⟩
    ⟨fun W => cast_fields (p' := (71, true)) (by simp (decide := true) [fieldsF, pickL, hz]) (fields_any 3 wk 3 hn hg nn ng t a u false er W)⟩
    ⟨fun W hT => itoa_any wk hb.1.1 hb.1.2 W hT⟩
    ⟨fun W hT => itoa_any t hb.2.2.2.2.2.1.1 hb.2.2.2.2.2.1.2 W hT⟩
    ⟨fun W hT => itoa_any a hb.2.2.2.2.2.2.1.1 hb.2.2.2.2.2.2.1.2 W hT⟩
    ⟨fun W hT => itoa_any u hb.2.2.2.2.2.2.2.1.1 hb.2.2.2.2.2.2.2.1.2 W hT⟩
    ⟨fun W hT => itoa_any er hb.2.2.2.2.2.2.2.2.1 hb.2.2.2.2.2.2.2.2.2 W hT⟩
    ⟨fun W hT => handle_any hn hg hb.2.1.1 hb.2.1.2 hb.2.2.1.1 hb.2.2.1.2 W hT⟩
    ⟨fun W hT => handle_any nn ng hb.2.2.2.1.1 hb.2.2.2.1.2 hb.2.2.2.2.1.1 hb.2.2.2.2.1.2 W hT⟩ w ht)
  simp only [numS_byt, hanS_byt, lit_byt, byt_app]
  exact congrArg byt (by simp [textW, restW, kindW, opW, yesW, hasH, hasN, hasT, hasA, hasU, hasY, hasE, in3, made, tailW_cons, tailW_nil, he])

theorem rl_3_3_no (wk hn hg nn ng t a u er : Int) (he : (er == 0) = false) (hb : BB wk ∧ BB hn ∧ BB hg ∧ BB nn ∧ BB ng ∧ BB t ∧ BB a ∧ BB u ∧ BB er)
    (hR : evRight 3 wk 3 hn hg nn ng t a u false er = true) (w : World) :
    Calls Tryd.prog 12 #[.agg (evL 3 wk 3 hn hg nn ng t a u false er)] w fun e w' => e = .returned (.string (byt (textW 3 wk 3 hn hg nn ng t a u false er))) ∧ Below w.heap.size w w' := by
  have hz : ¬ er = 0 := by simpa using he
  refine cast_text ?_ (rline_3_3_no wk hn hg nn ng t a u false er
    (numS_size wk hb.1.1 hb.1.2)
    (numS_size er hb.2.2.2.2.2.2.2.2.1 hb.2.2.2.2.2.2.2.2.2)
    (hanS_size hn hg hb.2.1.1 hb.2.1.2 hb.2.2.1.1 hb.2.2.1.2)
    ⟨fun W => cast_bool hR (right_any 3 wk 3 hn hg nn ng t a u false er W)⟩
    ⟨fun W => cast_bool (show hasH 3 3 = true by simp [hasH, hasN, hasT, hasA, hasU, hasY, hasE, in3, made, he]) (has_h 3 wk 3 hn hg nn ng t a u false er W)⟩
    ⟨fun W => cast_bool (show hasN 3 3 er = false by simp [hasH, hasN, hasT, hasA, hasU, hasY, hasE, in3, made, he]) (has_n 3 wk 3 hn hg nn ng t a u false er W)⟩
    ⟨fun W => cast_bool (show hasT 3 3 er = false by simp [hasH, hasN, hasT, hasA, hasU, hasY, hasE, in3, made, he]) (has_t 3 wk 3 hn hg nn ng t a u false er W)⟩
    ⟨fun W => cast_bool (show hasA 3 3 = false by simp [hasH, hasN, hasT, hasA, hasU, hasY, hasE, in3, made, he]) (has_a 3 wk 3 hn hg nn ng t a u false er W)⟩
    ⟨fun W => cast_bool (show hasU 3 3 = false by simp [hasH, hasN, hasT, hasA, hasU, hasY, hasE, in3, made, he]) (has_u 3 wk 3 hn hg nn ng t a u false er W)⟩
    ⟨fun W => cast_bool (show hasY 3 3 = false by simp [hasH, hasN, hasT, hasA, hasU, hasY, hasE, in3, made, he]) (has_y 3 wk 3 hn hg nn ng t a u false er W)⟩
    ⟨fun W => cast_bool (show hasE 3 3 = true by simp [hasH, hasN, hasT, hasA, hasU, hasY, hasE, in3, made, he]) (has_e 3 wk 3 hn hg nn ng t a u false er W)⟩
    ⟨fun W => dec_any wk.natAbs wk (Nat.le_refl _) hb.1.1 hb.1.2 W⟩
    ⟨fun W => dec_any er.natAbs er (Nat.le_refl _) hb.2.2.2.2.2.2.2.2.1 hb.2.2.2.2.2.2.2.2.2 W⟩
    ⟨fun W => ref_handle_any hn hg hb.2.1.1 hb.2.1.2 hb.2.2.1.1 hb.2.2.1.2 W⟩ w)
  simp only [numS_byt, hanS_byt, lit_byt, byt_app]
  exact congrArg byt (by simp [textW, restW, kindW, opW, yesW, hasH, hasN, hasT, hasA, hasU, hasY, hasE, in3, made, tailW_cons, tailW_nil, he])

theorem el_3_3_no (wk hn hg nn ng t a u er : Int) (he : (er == 0) = false) (hb : BB wk ∧ BB hn ∧ BB hg ∧ BB nn ∧ BB ng ∧ BB t ∧ BB a ∧ BB u ∧ BB er)
    (hR : evRight 3 wk 3 hn hg nn ng t a u false er = true) (w : World) (ht : Tab w) :
    Calls Tryd.prog 11 #[.agg (evL 3 wk 3 hn hg nn ng t a u false er)] w fun e w' => e = .returned (.string (byt (textW 3 wk 3 hn hg nn ng t a u false er))) ∧ Below w.heap.size w w' := by
  have hz : ¬ er = 0 := by simpa using he
  refine cast_text ?_ (eline_3_3_no wk hn hg nn ng t a u er
    (numS_size wk hb.1.1 hb.1.2)
    (numS_size t hb.2.2.2.2.2.1.1 hb.2.2.2.2.2.1.2)
    (numS_size a hb.2.2.2.2.2.2.1.1 hb.2.2.2.2.2.2.1.2)
    (numS_size u hb.2.2.2.2.2.2.2.1.1 hb.2.2.2.2.2.2.2.1.2)
    (numS_size er hb.2.2.2.2.2.2.2.2.1 hb.2.2.2.2.2.2.2.2.2)
    (hanS_size hn hg hb.2.1.1 hb.2.1.2 hb.2.2.1.1 hb.2.2.1.2)
    (hanS_size nn ng hb.2.2.2.1.1 hb.2.2.2.1.2 hb.2.2.2.2.1.1 hb.2.2.2.2.1.2)
    ⟨fun W => cast_bool hR (event_right 3 wk 3 hn hg nn ng t a u false er W)⟩
    ⟨fun W => cast_fields (p' := (65, true)) (by simp (decide := true) [fieldsF, pickL, hz]) (fields_any 3 wk 3 hn hg nn ng t a u false er W)⟩
    ⟨fun W hT => itoa_any wk hb.1.1 hb.1.2 W hT⟩
    ⟨fun W hT => itoa_any t hb.2.2.2.2.2.1.1 hb.2.2.2.2.2.1.2 W hT⟩
    ⟨fun W hT => itoa_any a hb.2.2.2.2.2.2.1.1 hb.2.2.2.2.2.2.1.2 W hT⟩
    ⟨fun W hT => itoa_any u hb.2.2.2.2.2.2.2.1.1 hb.2.2.2.2.2.2.2.1.2 W hT⟩
    ⟨fun W hT => itoa_any er hb.2.2.2.2.2.2.2.2.1 hb.2.2.2.2.2.2.2.2.2 W hT⟩
    ⟨fun W hT => handle_any hn hg hb.2.1.1 hb.2.1.2 hb.2.2.1.1 hb.2.2.1.2 W hT⟩
    ⟨fun W hT => handle_any nn ng hb.2.2.2.1.1 hb.2.2.2.1.2 hb.2.2.2.2.1.1 hb.2.2.2.2.1.2 W hT⟩ w ht)
  simp only [numS_byt, hanS_byt, lit_byt, byt_app]
  exact congrArg byt (by simp [textW, restW, kindW, opW, yesW, hasH, hasN, hasT, hasA, hasU, hasY, hasE, in3, made, tailW_cons, tailW_nil, he])

theorem rl_3_4 (wk hn hg nn ng t a u er : Int) (hb : BB wk ∧ BB hn ∧ BB hg ∧ BB nn ∧ BB ng ∧ BB t ∧ BB a ∧ BB u ∧ BB er)
    (hR : evRight 3 wk 4 hn hg nn ng t a u false er = true) (w : World) :
    Calls Tryd.prog 12 #[.agg (evL 3 wk 4 hn hg nn ng t a u false er)] w fun e w' => e = .returned (.string (byt (textW 3 wk 4 hn hg nn ng t a u false er))) ∧ Below w.heap.size w w' := by
  refine cast_text ?_ (rline_3_4 wk hn hg nn ng t a u false er
    (numS_size wk hb.1.1 hb.1.2)
    (numS_size er hb.2.2.2.2.2.2.2.2.1 hb.2.2.2.2.2.2.2.2.2)
    (hanS_size hn hg hb.2.1.1 hb.2.1.2 hb.2.2.1.1 hb.2.2.1.2)
    ⟨fun W => cast_bool hR (right_any 3 wk 4 hn hg nn ng t a u false er W)⟩
    ⟨fun W => cast_bool (show hasH 3 4 = true by simp [hasH, hasN, hasT, hasA, hasU, hasY, hasE, in3, made]) (has_h 3 wk 4 hn hg nn ng t a u false er W)⟩
    ⟨fun W => cast_bool (show hasN 3 4 er = false by simp [hasH, hasN, hasT, hasA, hasU, hasY, hasE, in3, made]) (has_n 3 wk 4 hn hg nn ng t a u false er W)⟩
    ⟨fun W => cast_bool (show hasT 3 4 er = false by simp [hasH, hasN, hasT, hasA, hasU, hasY, hasE, in3, made]) (has_t 3 wk 4 hn hg nn ng t a u false er W)⟩
    ⟨fun W => cast_bool (show hasA 3 4 = false by simp [hasH, hasN, hasT, hasA, hasU, hasY, hasE, in3, made]) (has_a 3 wk 4 hn hg nn ng t a u false er W)⟩
    ⟨fun W => cast_bool (show hasU 3 4 = false by simp [hasH, hasN, hasT, hasA, hasU, hasY, hasE, in3, made]) (has_u 3 wk 4 hn hg nn ng t a u false er W)⟩
    ⟨fun W => cast_bool (show hasY 3 4 = false by simp [hasH, hasN, hasT, hasA, hasU, hasY, hasE, in3, made]) (has_y 3 wk 4 hn hg nn ng t a u false er W)⟩
    ⟨fun W => cast_bool (show hasE 3 4 = true by simp [hasH, hasN, hasT, hasA, hasU, hasY, hasE, in3, made]) (has_e 3 wk 4 hn hg nn ng t a u false er W)⟩
    ⟨fun W => dec_any wk.natAbs wk (Nat.le_refl _) hb.1.1 hb.1.2 W⟩
    ⟨fun W => dec_any er.natAbs er (Nat.le_refl _) hb.2.2.2.2.2.2.2.2.1 hb.2.2.2.2.2.2.2.2.2 W⟩
    ⟨fun W => ref_handle_any hn hg hb.2.1.1 hb.2.1.2 hb.2.2.1.1 hb.2.2.1.2 W⟩ w)
  simp only [numS_byt, hanS_byt, lit_byt, byt_app]
  exact congrArg byt (by simp [textW, restW, kindW, opW, yesW, hasH, hasN, hasT, hasA, hasU, hasY, hasE, in3, made, tailW_cons, tailW_nil])

theorem el_3_4 (wk hn hg nn ng t a u er : Int) (hb : BB wk ∧ BB hn ∧ BB hg ∧ BB nn ∧ BB ng ∧ BB t ∧ BB a ∧ BB u ∧ BB er)
    (hR : evRight 3 wk 4 hn hg nn ng t a u false er = true) (w : World) (ht : Tab w) :
    Calls Tryd.prog 11 #[.agg (evL 3 wk 4 hn hg nn ng t a u false er)] w fun e w' => e = .returned (.string (byt (textW 3 wk 4 hn hg nn ng t a u false er))) ∧ Below w.heap.size w w' := by
  refine cast_text ?_ (eline_3_4 wk hn hg nn ng t a u er
    (numS_size wk hb.1.1 hb.1.2)
    (numS_size t hb.2.2.2.2.2.1.1 hb.2.2.2.2.2.1.2)
    (numS_size a hb.2.2.2.2.2.2.1.1 hb.2.2.2.2.2.2.1.2)
    (numS_size u hb.2.2.2.2.2.2.2.1.1 hb.2.2.2.2.2.2.2.1.2)
    (numS_size er hb.2.2.2.2.2.2.2.2.1 hb.2.2.2.2.2.2.2.2.2)
    (hanS_size hn hg hb.2.1.1 hb.2.1.2 hb.2.2.1.1 hb.2.2.1.2)
    (hanS_size nn ng hb.2.2.2.1.1 hb.2.2.2.1.2 hb.2.2.2.2.1.1 hb.2.2.2.2.1.2)
    ⟨fun W => cast_bool hR (event_right 3 wk 4 hn hg nn ng t a u false er W)⟩
    ⟨fun W => cast_fields (p' := (65, true)) (by by_cases z : er = 0 <;> simp (decide := true) [fieldsF, pickL, z]) (fields_any 3 wk 4 hn hg nn ng t a u false er W)⟩
    ⟨fun W hT => itoa_any wk hb.1.1 hb.1.2 W hT⟩
    ⟨fun W hT => itoa_any t hb.2.2.2.2.2.1.1 hb.2.2.2.2.2.1.2 W hT⟩
    ⟨fun W hT => itoa_any a hb.2.2.2.2.2.2.1.1 hb.2.2.2.2.2.2.1.2 W hT⟩
    ⟨fun W hT => itoa_any u hb.2.2.2.2.2.2.2.1.1 hb.2.2.2.2.2.2.2.1.2 W hT⟩
    ⟨fun W hT => itoa_any er hb.2.2.2.2.2.2.2.2.1 hb.2.2.2.2.2.2.2.2.2 W hT⟩
    ⟨fun W hT => handle_any hn hg hb.2.1.1 hb.2.1.2 hb.2.2.1.1 hb.2.2.1.2 W hT⟩
    ⟨fun W hT => handle_any nn ng hb.2.2.2.1.1 hb.2.2.2.1.2 hb.2.2.2.2.1.1 hb.2.2.2.2.1.2 W hT⟩ w ht)
  simp only [numS_byt, hanS_byt, lit_byt, byt_app]
  exact congrArg byt (by simp [textW, restW, kindW, opW, yesW, hasH, hasN, hasT, hasA, hasU, hasY, hasE, in3, made, tailW_cons, tailW_nil])

theorem rl_5_1_ok (wk hn hg nn ng t a u er : Int) (he : (er == 0) = true) (hb : BB wk ∧ BB hn ∧ BB hg ∧ BB nn ∧ BB ng ∧ BB t ∧ BB a ∧ BB u ∧ BB er)
    (hR : evRight 5 wk 1 hn hg nn ng t a u false er = true) (w : World) :
    Calls Tryd.prog 12 #[.agg (evL 5 wk 1 hn hg nn ng t a u false er)] w fun e w' => e = .returned (.string (byt (textW 5 wk 1 hn hg nn ng t a u false er))) ∧ Below w.heap.size w w' := by
  have hz : er = 0 := by simpa using he
  refine cast_text ?_ (rline_5_1_ok wk hn hg nn ng t a u false er
    (numS_size wk hb.1.1 hb.1.2)
    (numS_size er hb.2.2.2.2.2.2.2.2.1 hb.2.2.2.2.2.2.2.2.2)
    (hanS_size nn ng hb.2.2.2.1.1 hb.2.2.2.1.2 hb.2.2.2.2.1.1 hb.2.2.2.2.1.2)
    ⟨fun W => cast_bool hR (right_any 5 wk 1 hn hg nn ng t a u false er W)⟩
    ⟨fun W => cast_bool (show hasH 5 1 = false by simp [hasH, hasN, hasT, hasA, hasU, hasY, hasE, in3, made, he]) (has_h 5 wk 1 hn hg nn ng t a u false er W)⟩
    ⟨fun W => cast_bool (show hasN 5 1 er = true by simp [hasH, hasN, hasT, hasA, hasU, hasY, hasE, in3, made, he]) (has_n 5 wk 1 hn hg nn ng t a u false er W)⟩
    ⟨fun W => cast_bool (show hasT 5 1 er = false by simp [hasH, hasN, hasT, hasA, hasU, hasY, hasE, in3, made, he]) (has_t 5 wk 1 hn hg nn ng t a u false er W)⟩
    ⟨fun W => cast_bool (show hasA 5 1 = false by simp [hasH, hasN, hasT, hasA, hasU, hasY, hasE, in3, made, he]) (has_a 5 wk 1 hn hg nn ng t a u false er W)⟩
    ⟨fun W => cast_bool (show hasU 5 1 = false by simp [hasH, hasN, hasT, hasA, hasU, hasY, hasE, in3, made, he]) (has_u 5 wk 1 hn hg nn ng t a u false er W)⟩
    ⟨fun W => cast_bool (show hasY 5 1 = false by simp [hasH, hasN, hasT, hasA, hasU, hasY, hasE, in3, made, he]) (has_y 5 wk 1 hn hg nn ng t a u false er W)⟩
    ⟨fun W => cast_bool (show hasE 5 1 = true by simp [hasH, hasN, hasT, hasA, hasU, hasY, hasE, in3, made, he]) (has_e 5 wk 1 hn hg nn ng t a u false er W)⟩
    ⟨fun W => dec_any wk.natAbs wk (Nat.le_refl _) hb.1.1 hb.1.2 W⟩
    ⟨fun W => dec_any er.natAbs er (Nat.le_refl _) hb.2.2.2.2.2.2.2.2.1 hb.2.2.2.2.2.2.2.2.2 W⟩
    ⟨fun W => ref_handle_any nn ng hb.2.2.2.1.1 hb.2.2.2.1.2 hb.2.2.2.2.1.1 hb.2.2.2.2.1.2 W⟩ w)
  simp only [numS_byt, hanS_byt, lit_byt, byt_app]
  exact congrArg byt (by simp [textW, restW, kindW, opW, yesW, hasH, hasN, hasT, hasA, hasU, hasY, hasE, in3, made, tailW_cons, tailW_nil, he])

theorem el_5_1_ok (wk hn hg nn ng t a u er : Int) (he : (er == 0) = true) (hb : BB wk ∧ BB hn ∧ BB hg ∧ BB nn ∧ BB ng ∧ BB t ∧ BB a ∧ BB u ∧ BB er)
    (hR : evRight 5 wk 1 hn hg nn ng t a u false er = true) (w : World) (ht : Tab w) :
    Calls Tryd.prog 11 #[.agg (evL 5 wk 1 hn hg nn ng t a u false er)] w fun e w' => e = .returned (.string (byt (textW 5 wk 1 hn hg nn ng t a u false er))) ∧ Below w.heap.size w w' := by
  have hz : er = 0 := by simpa using he
  refine cast_text ?_ (eline_5_1_ok wk hn hg nn ng t a u er
    (numS_size wk hb.1.1 hb.1.2)
    (numS_size t hb.2.2.2.2.2.1.1 hb.2.2.2.2.2.1.2)
    (numS_size a hb.2.2.2.2.2.2.1.1 hb.2.2.2.2.2.2.1.2)
    (numS_size u hb.2.2.2.2.2.2.2.1.1 hb.2.2.2.2.2.2.2.1.2)
    (numS_size er hb.2.2.2.2.2.2.2.2.1 hb.2.2.2.2.2.2.2.2.2)
    (hanS_size hn hg hb.2.1.1 hb.2.1.2 hb.2.2.1.1 hb.2.2.1.2)
    (hanS_size nn ng hb.2.2.2.1.1 hb.2.2.2.1.2 hb.2.2.2.2.1.1 hb.2.2.2.2.1.2)
    ⟨fun W => cast_bool hR (event_right 5 wk 1 hn hg nn ng t a u false er W)⟩
    ⟨fun W => cast_fields (p' := (66, true)) (by simp (decide := true) [fieldsF, pickL, hz]) (fields_any 5 wk 1 hn hg nn ng t a u false er W)⟩
    ⟨fun W hT => itoa_any wk hb.1.1 hb.1.2 W hT⟩
    ⟨fun W hT => itoa_any t hb.2.2.2.2.2.1.1 hb.2.2.2.2.2.1.2 W hT⟩
    ⟨fun W hT => itoa_any a hb.2.2.2.2.2.2.1.1 hb.2.2.2.2.2.2.1.2 W hT⟩
    ⟨fun W hT => itoa_any u hb.2.2.2.2.2.2.2.1.1 hb.2.2.2.2.2.2.2.1.2 W hT⟩
    ⟨fun W hT => itoa_any er hb.2.2.2.2.2.2.2.2.1 hb.2.2.2.2.2.2.2.2.2 W hT⟩
    ⟨fun W hT => handle_any hn hg hb.2.1.1 hb.2.1.2 hb.2.2.1.1 hb.2.2.1.2 W hT⟩
    ⟨fun W hT => handle_any nn ng hb.2.2.2.1.1 hb.2.2.2.1.2 hb.2.2.2.2.1.1 hb.2.2.2.2.1.2 W hT⟩ w ht)
  simp only [numS_byt, hanS_byt, lit_byt, byt_app]
  exact congrArg byt (by simp [textW, restW, kindW, opW, yesW, hasH, hasN, hasT, hasA, hasU, hasY, hasE, in3, made, tailW_cons, tailW_nil, he])

theorem rl_5_1_no (wk hn hg nn ng t a u er : Int) (he : (er == 0) = false) (hb : BB wk ∧ BB hn ∧ BB hg ∧ BB nn ∧ BB ng ∧ BB t ∧ BB a ∧ BB u ∧ BB er)
    (hR : evRight 5 wk 1 hn hg nn ng t a u false er = true) (w : World) :
    Calls Tryd.prog 12 #[.agg (evL 5 wk 1 hn hg nn ng t a u false er)] w fun e w' => e = .returned (.string (byt (textW 5 wk 1 hn hg nn ng t a u false er))) ∧ Below w.heap.size w w' := by
  have hz : ¬ er = 0 := by simpa using he
  refine cast_text ?_ (rline_5_1_no wk hn hg nn ng t a u false er
    (numS_size wk hb.1.1 hb.1.2)
    (numS_size er hb.2.2.2.2.2.2.2.2.1 hb.2.2.2.2.2.2.2.2.2)
    ⟨fun W => cast_bool hR (right_any 5 wk 1 hn hg nn ng t a u false er W)⟩
    ⟨fun W => cast_bool (show hasH 5 1 = false by simp [hasH, hasN, hasT, hasA, hasU, hasY, hasE, in3, made, he]) (has_h 5 wk 1 hn hg nn ng t a u false er W)⟩
    ⟨fun W => cast_bool (show hasN 5 1 er = false by simp [hasH, hasN, hasT, hasA, hasU, hasY, hasE, in3, made, he]) (has_n 5 wk 1 hn hg nn ng t a u false er W)⟩
    ⟨fun W => cast_bool (show hasT 5 1 er = false by simp [hasH, hasN, hasT, hasA, hasU, hasY, hasE, in3, made, he]) (has_t 5 wk 1 hn hg nn ng t a u false er W)⟩
    ⟨fun W => cast_bool (show hasA 5 1 = false by simp [hasH, hasN, hasT, hasA, hasU, hasY, hasE, in3, made, he]) (has_a 5 wk 1 hn hg nn ng t a u false er W)⟩
    ⟨fun W => cast_bool (show hasU 5 1 = false by simp [hasH, hasN, hasT, hasA, hasU, hasY, hasE, in3, made, he]) (has_u 5 wk 1 hn hg nn ng t a u false er W)⟩
    ⟨fun W => cast_bool (show hasY 5 1 = false by simp [hasH, hasN, hasT, hasA, hasU, hasY, hasE, in3, made, he]) (has_y 5 wk 1 hn hg nn ng t a u false er W)⟩
    ⟨fun W => cast_bool (show hasE 5 1 = true by simp [hasH, hasN, hasT, hasA, hasU, hasY, hasE, in3, made, he]) (has_e 5 wk 1 hn hg nn ng t a u false er W)⟩
    ⟨fun W => dec_any wk.natAbs wk (Nat.le_refl _) hb.1.1 hb.1.2 W⟩
    ⟨fun W => dec_any er.natAbs er (Nat.le_refl _) hb.2.2.2.2.2.2.2.2.1 hb.2.2.2.2.2.2.2.2.2 W⟩ w)
  simp only [numS_byt, hanS_byt, lit_byt, byt_app]
  exact congrArg byt (by simp [textW, restW, kindW, opW, yesW, hasH, hasN, hasT, hasA, hasU, hasY, hasE, in3, made, tailW_cons, tailW_nil, he])

theorem el_5_1_no (wk hn hg nn ng t a u er : Int) (he : (er == 0) = false) (hb : BB wk ∧ BB hn ∧ BB hg ∧ BB nn ∧ BB ng ∧ BB t ∧ BB a ∧ BB u ∧ BB er)
    (hR : evRight 5 wk 1 hn hg nn ng t a u false er = true) (w : World) (ht : Tab w) :
    Calls Tryd.prog 11 #[.agg (evL 5 wk 1 hn hg nn ng t a u false er)] w fun e w' => e = .returned (.string (byt (textW 5 wk 1 hn hg nn ng t a u false er))) ∧ Below w.heap.size w w' := by
  have hz : ¬ er = 0 := by simpa using he
  refine cast_text ?_ (eline_5_1_no wk hn hg nn ng t a u er
    (numS_size wk hb.1.1 hb.1.2)
    (numS_size t hb.2.2.2.2.2.1.1 hb.2.2.2.2.2.1.2)
    (numS_size a hb.2.2.2.2.2.2.1.1 hb.2.2.2.2.2.2.1.2)
    (numS_size u hb.2.2.2.2.2.2.2.1.1 hb.2.2.2.2.2.2.2.1.2)
    (numS_size er hb.2.2.2.2.2.2.2.2.1 hb.2.2.2.2.2.2.2.2.2)
    (hanS_size hn hg hb.2.1.1 hb.2.1.2 hb.2.2.1.1 hb.2.2.1.2)
    (hanS_size nn ng hb.2.2.2.1.1 hb.2.2.2.1.2 hb.2.2.2.2.1.1 hb.2.2.2.2.1.2)
    ⟨fun W => cast_bool hR (event_right 5 wk 1 hn hg nn ng t a u false er W)⟩
    ⟨fun W => cast_fields (p' := (64, true)) (by simp (decide := true) [fieldsF, pickL, hz]) (fields_any 5 wk 1 hn hg nn ng t a u false er W)⟩
    ⟨fun W hT => itoa_any wk hb.1.1 hb.1.2 W hT⟩
    ⟨fun W hT => itoa_any t hb.2.2.2.2.2.1.1 hb.2.2.2.2.2.1.2 W hT⟩
    ⟨fun W hT => itoa_any a hb.2.2.2.2.2.2.1.1 hb.2.2.2.2.2.2.1.2 W hT⟩
    ⟨fun W hT => itoa_any u hb.2.2.2.2.2.2.2.1.1 hb.2.2.2.2.2.2.2.1.2 W hT⟩
    ⟨fun W hT => itoa_any er hb.2.2.2.2.2.2.2.2.1 hb.2.2.2.2.2.2.2.2.2 W hT⟩
    ⟨fun W hT => handle_any hn hg hb.2.1.1 hb.2.1.2 hb.2.2.1.1 hb.2.2.1.2 W hT⟩
    ⟨fun W hT => handle_any nn ng hb.2.2.2.1.1 hb.2.2.2.1.2 hb.2.2.2.2.1.1 hb.2.2.2.2.1.2 W hT⟩ w ht)
  simp only [numS_byt, hanS_byt, lit_byt, byt_app]
  exact congrArg byt (by simp [textW, restW, kindW, opW, yesW, hasH, hasN, hasT, hasA, hasU, hasY, hasE, in3, made, tailW_cons, tailW_nil, he])

theorem rl_5_2_yes (wk hn hg nn ng t a u er : Int) (hb : BB wk ∧ BB hn ∧ BB hg ∧ BB nn ∧ BB ng ∧ BB t ∧ BB a ∧ BB u ∧ BB er)
    (hR : evRight 5 wk 2 hn hg nn ng t a u true er = true) (w : World) :
    Calls Tryd.prog 12 #[.agg (evL 5 wk 2 hn hg nn ng t a u true er)] w fun e w' => e = .returned (.string (byt (textW 5 wk 2 hn hg nn ng t a u true er))) ∧ Below w.heap.size w w' := by
  refine cast_text ?_ (rline_5_2_yes wk hn hg nn ng t a u true er
    (numS_size wk hb.1.1 hb.1.2)
    ⟨fun W => cast_bool hR (right_any 5 wk 2 hn hg nn ng t a u true er W)⟩
    ⟨fun W => cast_bool (show hasH 5 2 = false by simp [hasH, hasN, hasT, hasA, hasU, hasY, hasE, in3, made]) (has_h 5 wk 2 hn hg nn ng t a u true er W)⟩
    ⟨fun W => cast_bool (show hasN 5 2 er = false by simp [hasH, hasN, hasT, hasA, hasU, hasY, hasE, in3, made]) (has_n 5 wk 2 hn hg nn ng t a u true er W)⟩
    ⟨fun W => cast_bool (show hasT 5 2 er = false by simp [hasH, hasN, hasT, hasA, hasU, hasY, hasE, in3, made]) (has_t 5 wk 2 hn hg nn ng t a u true er W)⟩
    ⟨fun W => cast_bool (show hasA 5 2 = false by simp [hasH, hasN, hasT, hasA, hasU, hasY, hasE, in3, made]) (has_a 5 wk 2 hn hg nn ng t a u true er W)⟩
    ⟨fun W => cast_bool (show hasU 5 2 = false by simp [hasH, hasN, hasT, hasA, hasU, hasY, hasE, in3, made]) (has_u 5 wk 2 hn hg nn ng t a u true er W)⟩
    ⟨fun W => cast_bool (show hasY 5 2 = true by simp [hasH, hasN, hasT, hasA, hasU, hasY, hasE, in3, made]) (has_y 5 wk 2 hn hg nn ng t a u true er W)⟩
    ⟨fun W => cast_bool (show hasE 5 2 = false by simp [hasH, hasN, hasT, hasA, hasU, hasY, hasE, in3, made]) (has_e 5 wk 2 hn hg nn ng t a u true er W)⟩
    ⟨fun W => dec_any wk.natAbs wk (Nat.le_refl _) hb.1.1 hb.1.2 W⟩ w)
  simp only [numS_byt, hanS_byt, lit_byt, byt_app]
  exact congrArg byt (by simp [textW, restW, kindW, opW, yesW, hasH, hasN, hasT, hasA, hasU, hasY, hasE, in3, made, tailW_cons, tailW_nil])

theorem el_5_2_yes (wk hn hg nn ng t a u er : Int) (hb : BB wk ∧ BB hn ∧ BB hg ∧ BB nn ∧ BB ng ∧ BB t ∧ BB a ∧ BB u ∧ BB er)
    (hR : evRight 5 wk 2 hn hg nn ng t a u true er = true) (w : World) (ht : Tab w) :
    Calls Tryd.prog 11 #[.agg (evL 5 wk 2 hn hg nn ng t a u true er)] w fun e w' => e = .returned (.string (byt (textW 5 wk 2 hn hg nn ng t a u true er))) ∧ Below w.heap.size w w' := by
  refine cast_text ?_ (eline_5_2_yes wk hn hg nn ng t a u er
    (numS_size wk hb.1.1 hb.1.2)
    (numS_size t hb.2.2.2.2.2.1.1 hb.2.2.2.2.2.1.2)
    (numS_size a hb.2.2.2.2.2.2.1.1 hb.2.2.2.2.2.2.1.2)
    (numS_size u hb.2.2.2.2.2.2.2.1.1 hb.2.2.2.2.2.2.2.1.2)
    (numS_size er hb.2.2.2.2.2.2.2.2.1 hb.2.2.2.2.2.2.2.2.2)
    (hanS_size hn hg hb.2.1.1 hb.2.1.2 hb.2.2.1.1 hb.2.2.1.2)
    (hanS_size nn ng hb.2.2.2.1.1 hb.2.2.2.1.2 hb.2.2.2.2.1.1 hb.2.2.2.2.1.2)
    ⟨fun W => cast_bool hR (event_right 5 wk 2 hn hg nn ng t a u true er W)⟩
    ⟨fun W => cast_fields (p' := (32, true)) (by by_cases z : er = 0 <;> simp (decide := true) [fieldsF, pickL, z]) (fields_any 5 wk 2 hn hg nn ng t a u true er W)⟩
    ⟨fun W hT => itoa_any wk hb.1.1 hb.1.2 W hT⟩
    ⟨fun W hT => itoa_any t hb.2.2.2.2.2.1.1 hb.2.2.2.2.2.1.2 W hT⟩
    ⟨fun W hT => itoa_any a hb.2.2.2.2.2.2.1.1 hb.2.2.2.2.2.2.1.2 W hT⟩
    ⟨fun W hT => itoa_any u hb.2.2.2.2.2.2.2.1.1 hb.2.2.2.2.2.2.2.1.2 W hT⟩
    ⟨fun W hT => itoa_any er hb.2.2.2.2.2.2.2.2.1 hb.2.2.2.2.2.2.2.2.2 W hT⟩
    ⟨fun W hT => handle_any hn hg hb.2.1.1 hb.2.1.2 hb.2.2.1.1 hb.2.2.1.2 W hT⟩
    ⟨fun W hT => handle_any nn ng hb.2.2.2.1.1 hb.2.2.2.1.2 hb.2.2.2.2.1.1 hb.2.2.2.2.1.2 W hT⟩ w ht)
  simp only [numS_byt, hanS_byt, lit_byt, byt_app]
  exact congrArg byt (by simp [textW, restW, kindW, opW, yesW, hasH, hasN, hasT, hasA, hasU, hasY, hasE, in3, made, tailW_cons, tailW_nil])

theorem rl_5_2_not (wk hn hg nn ng t a u er : Int) (hb : BB wk ∧ BB hn ∧ BB hg ∧ BB nn ∧ BB ng ∧ BB t ∧ BB a ∧ BB u ∧ BB er)
    (hR : evRight 5 wk 2 hn hg nn ng t a u false er = true) (w : World) :
    Calls Tryd.prog 12 #[.agg (evL 5 wk 2 hn hg nn ng t a u false er)] w fun e w' => e = .returned (.string (byt (textW 5 wk 2 hn hg nn ng t a u false er))) ∧ Below w.heap.size w w' := by
  refine cast_text ?_ (rline_5_2_not wk hn hg nn ng t a u false er
    (numS_size wk hb.1.1 hb.1.2)
    ⟨fun W => cast_bool hR (right_any 5 wk 2 hn hg nn ng t a u false er W)⟩
    ⟨fun W => cast_bool (show hasH 5 2 = false by simp [hasH, hasN, hasT, hasA, hasU, hasY, hasE, in3, made]) (has_h 5 wk 2 hn hg nn ng t a u false er W)⟩
    ⟨fun W => cast_bool (show hasN 5 2 er = false by simp [hasH, hasN, hasT, hasA, hasU, hasY, hasE, in3, made]) (has_n 5 wk 2 hn hg nn ng t a u false er W)⟩
    ⟨fun W => cast_bool (show hasT 5 2 er = false by simp [hasH, hasN, hasT, hasA, hasU, hasY, hasE, in3, made]) (has_t 5 wk 2 hn hg nn ng t a u false er W)⟩
    ⟨fun W => cast_bool (show hasA 5 2 = false by simp [hasH, hasN, hasT, hasA, hasU, hasY, hasE, in3, made]) (has_a 5 wk 2 hn hg nn ng t a u false er W)⟩
    ⟨fun W => cast_bool (show hasU 5 2 = false by simp [hasH, hasN, hasT, hasA, hasU, hasY, hasE, in3, made]) (has_u 5 wk 2 hn hg nn ng t a u false er W)⟩
    ⟨fun W => cast_bool (show hasY 5 2 = true by simp [hasH, hasN, hasT, hasA, hasU, hasY, hasE, in3, made]) (has_y 5 wk 2 hn hg nn ng t a u false er W)⟩
    ⟨fun W => cast_bool (show hasE 5 2 = false by simp [hasH, hasN, hasT, hasA, hasU, hasY, hasE, in3, made]) (has_e 5 wk 2 hn hg nn ng t a u false er W)⟩
    ⟨fun W => dec_any wk.natAbs wk (Nat.le_refl _) hb.1.1 hb.1.2 W⟩ w)
  simp only [numS_byt, hanS_byt, lit_byt, byt_app]
  exact congrArg byt (by simp [textW, restW, kindW, opW, yesW, hasH, hasN, hasT, hasA, hasU, hasY, hasE, in3, made, tailW_cons, tailW_nil])

theorem el_5_2_not (wk hn hg nn ng t a u er : Int) (hb : BB wk ∧ BB hn ∧ BB hg ∧ BB nn ∧ BB ng ∧ BB t ∧ BB a ∧ BB u ∧ BB er)
    (hR : evRight 5 wk 2 hn hg nn ng t a u false er = true) (w : World) (ht : Tab w) :
    Calls Tryd.prog 11 #[.agg (evL 5 wk 2 hn hg nn ng t a u false er)] w fun e w' => e = .returned (.string (byt (textW 5 wk 2 hn hg nn ng t a u false er))) ∧ Below w.heap.size w w' := by
  refine cast_text ?_ (eline_5_2_not wk hn hg nn ng t a u er
    (numS_size wk hb.1.1 hb.1.2)
    (numS_size t hb.2.2.2.2.2.1.1 hb.2.2.2.2.2.1.2)
    (numS_size a hb.2.2.2.2.2.2.1.1 hb.2.2.2.2.2.2.1.2)
    (numS_size u hb.2.2.2.2.2.2.2.1.1 hb.2.2.2.2.2.2.2.1.2)
    (numS_size er hb.2.2.2.2.2.2.2.2.1 hb.2.2.2.2.2.2.2.2.2)
    (hanS_size hn hg hb.2.1.1 hb.2.1.2 hb.2.2.1.1 hb.2.2.1.2)
    (hanS_size nn ng hb.2.2.2.1.1 hb.2.2.2.1.2 hb.2.2.2.2.1.1 hb.2.2.2.2.1.2)
    ⟨fun W => cast_bool hR (event_right 5 wk 2 hn hg nn ng t a u false er W)⟩
    ⟨fun W => cast_fields (p' := (32, true)) (by by_cases z : er = 0 <;> simp (decide := true) [fieldsF, pickL, z]) (fields_any 5 wk 2 hn hg nn ng t a u false er W)⟩
    ⟨fun W hT => itoa_any wk hb.1.1 hb.1.2 W hT⟩
    ⟨fun W hT => itoa_any t hb.2.2.2.2.2.1.1 hb.2.2.2.2.2.1.2 W hT⟩
    ⟨fun W hT => itoa_any a hb.2.2.2.2.2.2.1.1 hb.2.2.2.2.2.2.1.2 W hT⟩
    ⟨fun W hT => itoa_any u hb.2.2.2.2.2.2.2.1.1 hb.2.2.2.2.2.2.2.1.2 W hT⟩
    ⟨fun W hT => itoa_any er hb.2.2.2.2.2.2.2.2.1 hb.2.2.2.2.2.2.2.2.2 W hT⟩
    ⟨fun W hT => handle_any hn hg hb.2.1.1 hb.2.1.2 hb.2.2.1.1 hb.2.2.1.2 W hT⟩
    ⟨fun W hT => handle_any nn ng hb.2.2.2.1.1 hb.2.2.2.1.2 hb.2.2.2.2.1.1 hb.2.2.2.2.1.2 W hT⟩ w ht)
  simp only [numS_byt, hanS_byt, lit_byt, byt_app]
  exact congrArg byt (by simp [textW, restW, kindW, opW, yesW, hasH, hasN, hasT, hasA, hasU, hasY, hasE, in3, made, tailW_cons, tailW_nil])

theorem rl_5_3_ok (wk hn hg nn ng t a u er : Int) (he : (er == 0) = true) (hb : BB wk ∧ BB hn ∧ BB hg ∧ BB nn ∧ BB ng ∧ BB t ∧ BB a ∧ BB u ∧ BB er)
    (hR : evRight 5 wk 3 hn hg nn ng t a u false er = true) (w : World) :
    Calls Tryd.prog 12 #[.agg (evL 5 wk 3 hn hg nn ng t a u false er)] w fun e w' => e = .returned (.string (byt (textW 5 wk 3 hn hg nn ng t a u false er))) ∧ Below w.heap.size w w' := by
  have hz : er = 0 := by simpa using he
  refine cast_text ?_ (rline_5_3_ok wk hn hg nn ng t a u false er
    (numS_size wk hb.1.1 hb.1.2)
    (numS_size er hb.2.2.2.2.2.2.2.2.1 hb.2.2.2.2.2.2.2.2.2)
    (hanS_size nn ng hb.2.2.2.1.1 hb.2.2.2.1.2 hb.2.2.2.2.1.1 hb.2.2.2.2.1.2)
    ⟨fun W => cast_bool hR (right_any 5 wk 3 hn hg nn ng t a u false er W)⟩
    ⟨fun W => cast_bool (show hasH 5 3 = false by simp [hasH, hasN, hasT, hasA, hasU, hasY, hasE, in3, made, he]) (has_h 5 wk 3 hn hg nn ng t a u false er W)⟩
    ⟨fun W => cast_bool (show hasN 5 3 er = true by simp [hasH, hasN, hasT, hasA, hasU, hasY, hasE, in3, made, he]) (has_n 5 wk 3 hn hg nn ng t a u false er W)⟩
    ⟨fun W => cast_bool (show hasT 5 3 er = false by simp [hasH, hasN, hasT, hasA, hasU, hasY, hasE, in3, made, he]) (has_t 5 wk 3 hn hg nn ng t a u false er W)⟩
    ⟨fun W => cast_bool (show hasA 5 3 = false by simp [hasH, hasN, hasT, hasA, hasU, hasY, hasE, in3, made, he]) (has_a 5 wk 3 hn hg nn ng t a u false er W)⟩
    ⟨fun W => cast_bool (show hasU 5 3 = false by simp [hasH, hasN, hasT, hasA, hasU, hasY, hasE, in3, made, he]) (has_u 5 wk 3 hn hg nn ng t a u false er W)⟩
    ⟨fun W => cast_bool (show hasY 5 3 = false by simp [hasH, hasN, hasT, hasA, hasU, hasY, hasE, in3, made, he]) (has_y 5 wk 3 hn hg nn ng t a u false er W)⟩
    ⟨fun W => cast_bool (show hasE 5 3 = true by simp [hasH, hasN, hasT, hasA, hasU, hasY, hasE, in3, made, he]) (has_e 5 wk 3 hn hg nn ng t a u false er W)⟩
    ⟨fun W => dec_any wk.natAbs wk (Nat.le_refl _) hb.1.1 hb.1.2 W⟩
    ⟨fun W => dec_any er.natAbs er (Nat.le_refl _) hb.2.2.2.2.2.2.2.2.1 hb.2.2.2.2.2.2.2.2.2 W⟩
    ⟨fun W => ref_handle_any nn ng hb.2.2.2.1.1 hb.2.2.2.1.2 hb.2.2.2.2.1.1 hb.2.2.2.2.1.2 W⟩ w)
  simp only [numS_byt, hanS_byt, lit_byt, byt_app]
  exact congrArg byt (by simp [textW, restW, kindW, opW, yesW, hasH, hasN, hasT, hasA, hasU, hasY, hasE, in3, made, tailW_cons, tailW_nil, he])

theorem el_5_3_ok (wk hn hg nn ng t a u er : Int) (he : (er == 0) = true) (hb : BB wk ∧ BB hn ∧ BB hg ∧ BB nn ∧ BB ng ∧ BB t ∧ BB a ∧ BB u ∧ BB er)
    (hR : evRight 5 wk 3 hn hg nn ng t a u false er = true) (w : World) (ht : Tab w) :
    Calls Tryd.prog 11 #[.agg (evL 5 wk 3 hn hg nn ng t a u false er)] w fun e w' => e = .returned (.string (byt (textW 5 wk 3 hn hg nn ng t a u false er))) ∧ Below w.heap.size w w' := by
  have hz : er = 0 := by simpa using he
  refine cast_text ?_ (eline_5_3_ok wk hn hg nn ng t a u er
    (numS_size wk hb.1.1 hb.1.2)
    (numS_size t hb.2.2.2.2.2.1.1 hb.2.2.2.2.2.1.2)
    (numS_size a hb.2.2.2.2.2.2.1.1 hb.2.2.2.2.2.2.1.2)
    (numS_size u hb.2.2.2.2.2.2.2.1.1 hb.2.2.2.2.2.2.2.1.2)
    (numS_size er hb.2.2.2.2.2.2.2.2.1 hb.2.2.2.2.2.2.2.2.2)
    (hanS_size hn hg hb.2.1.1 hb.2.1.2 hb.2.2.1.1 hb.2.2.1.2)
    (hanS_size nn ng hb.2.2.2.1.1 hb.2.2.2.1.2 hb.2.2.2.2.1.1 hb.2.2.2.2.1.2)
    ⟨fun W => cast_bool hR (event_right 5 wk 3 hn hg nn ng t a u false er W)⟩
    ⟨fun W => cast_fields (p' := (66, true)) (by simp (decide := true) [fieldsF, pickL, hz]) (fields_any 5 wk 3 hn hg nn ng t a u false er W)⟩
    ⟨fun W hT => itoa_any wk hb.1.1 hb.1.2 W hT⟩
    ⟨fun W hT => itoa_any t hb.2.2.2.2.2.1.1 hb.2.2.2.2.2.1.2 W hT⟩
    ⟨fun W hT => itoa_any a hb.2.2.2.2.2.2.1.1 hb.2.2.2.2.2.2.1.2 W hT⟩
    ⟨fun W hT => itoa_any u hb.2.2.2.2.2.2.2.1.1 hb.2.2.2.2.2.2.2.1.2 W hT⟩
    ⟨fun W hT => itoa_any er hb.2.2.2.2.2.2.2.2.1 hb.2.2.2.2.2.2.2.2.2 W hT⟩
    ⟨fun W hT => handle_any hn hg hb.2.1.1 hb.2.1.2 hb.2.2.1.1 hb.2.2.1.2 W hT⟩
    ⟨fun W hT => handle_any nn ng hb.2.2.2.1.1 hb.2.2.2.1.2 hb.2.2.2.2.1.1 hb.2.2.2.2.1.2 W hT⟩ w ht)
  simp only [numS_byt, hanS_byt, lit_byt, byt_app]
  exact congrArg byt (by simp [textW, restW, kindW, opW, yesW, hasH, hasN, hasT, hasA, hasU, hasY, hasE, in3, made, tailW_cons, tailW_nil, he])

theorem rl_5_3_no (wk hn hg nn ng t a u er : Int) (he : (er == 0) = false) (hb : BB wk ∧ BB hn ∧ BB hg ∧ BB nn ∧ BB ng ∧ BB t ∧ BB a ∧ BB u ∧ BB er)
    (hR : evRight 5 wk 3 hn hg nn ng t a u false er = true) (w : World) :
    Calls Tryd.prog 12 #[.agg (evL 5 wk 3 hn hg nn ng t a u false er)] w fun e w' => e = .returned (.string (byt (textW 5 wk 3 hn hg nn ng t a u false er))) ∧ Below w.heap.size w w' := by
  have hz : ¬ er = 0 := by simpa using he
  refine cast_text ?_ (rline_5_3_no wk hn hg nn ng t a u false er
    (numS_size wk hb.1.1 hb.1.2)
    (numS_size er hb.2.2.2.2.2.2.2.2.1 hb.2.2.2.2.2.2.2.2.2)
    ⟨fun W => cast_bool hR (right_any 5 wk 3 hn hg nn ng t a u false er W)⟩
    ⟨fun W => cast_bool (show hasH 5 3 = false by simp [hasH, hasN, hasT, hasA, hasU, hasY, hasE, in3, made, he]) (has_h 5 wk 3 hn hg nn ng t a u false er W)⟩
    ⟨fun W => cast_bool (show hasN 5 3 er = false by simp [hasH, hasN, hasT, hasA, hasU, hasY, hasE, in3, made, he]) (has_n 5 wk 3 hn hg nn ng t a u false er W)⟩
    ⟨fun W => cast_bool (show hasT 5 3 er = false by simp [hasH, hasN, hasT, hasA, hasU, hasY, hasE, in3, made, he]) (has_t 5 wk 3 hn hg nn ng t a u false er W)⟩
    ⟨fun W => cast_bool (show hasA 5 3 = false by simp [hasH, hasN, hasT, hasA, hasU, hasY, hasE, in3, made, he]) (has_a 5 wk 3 hn hg nn ng t a u false er W)⟩
    ⟨fun W => cast_bool (show hasU 5 3 = false by simp [hasH, hasN, hasT, hasA, hasU, hasY, hasE, in3, made, he]) (has_u 5 wk 3 hn hg nn ng t a u false er W)⟩
    ⟨fun W => cast_bool (show hasY 5 3 = false by simp [hasH, hasN, hasT, hasA, hasU, hasY, hasE, in3, made, he]) (has_y 5 wk 3 hn hg nn ng t a u false er W)⟩
    ⟨fun W => cast_bool (show hasE 5 3 = true by simp [hasH, hasN, hasT, hasA, hasU, hasY, hasE, in3, made, he]) (has_e 5 wk 3 hn hg nn ng t a u false er W)⟩
    ⟨fun W => dec_any wk.natAbs wk (Nat.le_refl _) hb.1.1 hb.1.2 W⟩
    ⟨fun W => dec_any er.natAbs er (Nat.le_refl _) hb.2.2.2.2.2.2.2.2.1 hb.2.2.2.2.2.2.2.2.2 W⟩ w)
  simp only [numS_byt, hanS_byt, lit_byt, byt_app]
  exact congrArg byt (by simp [textW, restW, kindW, opW, yesW, hasH, hasN, hasT, hasA, hasU, hasY, hasE, in3, made, tailW_cons, tailW_nil, he])

theorem el_5_3_no (wk hn hg nn ng t a u er : Int) (he : (er == 0) = false) (hb : BB wk ∧ BB hn ∧ BB hg ∧ BB nn ∧ BB ng ∧ BB t ∧ BB a ∧ BB u ∧ BB er)
    (hR : evRight 5 wk 3 hn hg nn ng t a u false er = true) (w : World) (ht : Tab w) :
    Calls Tryd.prog 11 #[.agg (evL 5 wk 3 hn hg nn ng t a u false er)] w fun e w' => e = .returned (.string (byt (textW 5 wk 3 hn hg nn ng t a u false er))) ∧ Below w.heap.size w w' := by
  have hz : ¬ er = 0 := by simpa using he
  refine cast_text ?_ (eline_5_3_no wk hn hg nn ng t a u er
    (numS_size wk hb.1.1 hb.1.2)
    (numS_size t hb.2.2.2.2.2.1.1 hb.2.2.2.2.2.1.2)
    (numS_size a hb.2.2.2.2.2.2.1.1 hb.2.2.2.2.2.2.1.2)
    (numS_size u hb.2.2.2.2.2.2.2.1.1 hb.2.2.2.2.2.2.2.1.2)
    (numS_size er hb.2.2.2.2.2.2.2.2.1 hb.2.2.2.2.2.2.2.2.2)
    (hanS_size hn hg hb.2.1.1 hb.2.1.2 hb.2.2.1.1 hb.2.2.1.2)
    (hanS_size nn ng hb.2.2.2.1.1 hb.2.2.2.1.2 hb.2.2.2.2.1.1 hb.2.2.2.2.1.2)
    ⟨fun W => cast_bool hR (event_right 5 wk 3 hn hg nn ng t a u false er W)⟩
    ⟨fun W => cast_fields (p' := (64, true)) (by simp (decide := true) [fieldsF, pickL, hz]) (fields_any 5 wk 3 hn hg nn ng t a u false er W)⟩
    ⟨fun W hT => itoa_any wk hb.1.1 hb.1.2 W hT⟩
    ⟨fun W hT => itoa_any t hb.2.2.2.2.2.1.1 hb.2.2.2.2.2.1.2 W hT⟩
    ⟨fun W hT => itoa_any a hb.2.2.2.2.2.2.1.1 hb.2.2.2.2.2.2.1.2 W hT⟩
    ⟨fun W hT => itoa_any u hb.2.2.2.2.2.2.2.1.1 hb.2.2.2.2.2.2.2.1.2 W hT⟩
    ⟨fun W hT => itoa_any er hb.2.2.2.2.2.2.2.2.1 hb.2.2.2.2.2.2.2.2.2 W hT⟩
    ⟨fun W hT => handle_any hn hg hb.2.1.1 hb.2.1.2 hb.2.2.1.1 hb.2.2.1.2 W hT⟩
    ⟨fun W hT => handle_any nn ng hb.2.2.2.1.1 hb.2.2.2.1.2 hb.2.2.2.2.1.1 hb.2.2.2.2.1.2 W hT⟩ w ht)
  simp only [numS_byt, hanS_byt, lit_byt, byt_app]
  exact congrArg byt (by simp [textW, restW, kindW, opW, yesW, hasH, hasN, hasT, hasA, hasU, hasY, hasE, in3, made, tailW_cons, tailW_nil, he])

theorem rl_5_4 (wk hn hg nn ng t a u er : Int) (hb : BB wk ∧ BB hn ∧ BB hg ∧ BB nn ∧ BB ng ∧ BB t ∧ BB a ∧ BB u ∧ BB er)
    (hR : evRight 5 wk 4 hn hg nn ng t a u false er = true) (w : World) :
    Calls Tryd.prog 12 #[.agg (evL 5 wk 4 hn hg nn ng t a u false er)] w fun e w' => e = .returned (.string (byt (textW 5 wk 4 hn hg nn ng t a u false er))) ∧ Below w.heap.size w w' := by
  refine cast_text ?_ (rline_5_4 wk hn hg nn ng t a u false er
    (numS_size wk hb.1.1 hb.1.2)
    (numS_size er hb.2.2.2.2.2.2.2.2.1 hb.2.2.2.2.2.2.2.2.2)
    ⟨fun W => cast_bool hR (right_any 5 wk 4 hn hg nn ng t a u false er W)⟩
    ⟨fun W => cast_bool (show hasH 5 4 = false by simp [hasH, hasN, hasT, hasA, hasU, hasY, hasE, in3, made]) (has_h 5 wk 4 hn hg nn ng t a u false er W)⟩
    ⟨fun W => cast_bool (show hasN 5 4 er = false by simp [hasH, hasN, hasT, hasA, hasU, hasY, hasE, in3, made]) (has_n 5 wk 4 hn hg nn ng t a u false er W)⟩
    ⟨fun W => cast_bool (show hasT 5 4 er = false by simp [hasH, hasN, hasT, hasA, hasU, hasY, hasE, in3, made]) (has_t 5 wk 4 hn hg nn ng t a u false er W)⟩
    ⟨fun W => cast_bool (show hasA 5 4 = false by simp [hasH, hasN, hasT, hasA, hasU, hasY, hasE, in3, made]) (has_a 5 wk 4 hn hg nn ng t a u false er W)⟩
    ⟨fun W => cast_bool (show hasU 5 4 = false by simp [hasH, hasN, hasT, hasA, hasU, hasY, hasE, in3, made]) (has_u 5 wk 4 hn hg nn ng t a u false er W)⟩
    ⟨fun W => cast_bool (show hasY 5 4 = false by simp [hasH, hasN, hasT, hasA, hasU, hasY, hasE, in3, made]) (has_y 5 wk 4 hn hg nn ng t a u false er W)⟩
    ⟨fun W => cast_bool (show hasE 5 4 = true by simp [hasH, hasN, hasT, hasA, hasU, hasY, hasE, in3, made]) (has_e 5 wk 4 hn hg nn ng t a u false er W)⟩
    ⟨fun W => dec_any wk.natAbs wk (Nat.le_refl _) hb.1.1 hb.1.2 W⟩
    ⟨fun W => dec_any er.natAbs er (Nat.le_refl _) hb.2.2.2.2.2.2.2.2.1 hb.2.2.2.2.2.2.2.2.2 W⟩ w)
  simp only [numS_byt, hanS_byt, lit_byt, byt_app]
  exact congrArg byt (by simp [textW, restW, kindW, opW, yesW, hasH, hasN, hasT, hasA, hasU, hasY, hasE, in3, made, tailW_cons, tailW_nil])

theorem el_5_4 (wk hn hg nn ng t a u er : Int) (hb : BB wk ∧ BB hn ∧ BB hg ∧ BB nn ∧ BB ng ∧ BB t ∧ BB a ∧ BB u ∧ BB er)
    (hR : evRight 5 wk 4 hn hg nn ng t a u false er = true) (w : World) (ht : Tab w) :
    Calls Tryd.prog 11 #[.agg (evL 5 wk 4 hn hg nn ng t a u false er)] w fun e w' => e = .returned (.string (byt (textW 5 wk 4 hn hg nn ng t a u false er))) ∧ Below w.heap.size w w' := by
  refine cast_text ?_ (eline_5_4 wk hn hg nn ng t a u er
    (numS_size wk hb.1.1 hb.1.2)
    (numS_size t hb.2.2.2.2.2.1.1 hb.2.2.2.2.2.1.2)
    (numS_size a hb.2.2.2.2.2.2.1.1 hb.2.2.2.2.2.2.1.2)
    (numS_size u hb.2.2.2.2.2.2.2.1.1 hb.2.2.2.2.2.2.2.1.2)
    (numS_size er hb.2.2.2.2.2.2.2.2.1 hb.2.2.2.2.2.2.2.2.2)
    (hanS_size hn hg hb.2.1.1 hb.2.1.2 hb.2.2.1.1 hb.2.2.1.2)
    (hanS_size nn ng hb.2.2.2.1.1 hb.2.2.2.1.2 hb.2.2.2.2.1.1 hb.2.2.2.2.1.2)
    ⟨fun W => cast_bool hR (event_right 5 wk 4 hn hg nn ng t a u false er W)⟩
    ⟨fun W => cast_fields (p' := (64, true)) (by by_cases z : er = 0 <;> simp (decide := true) [fieldsF, pickL, z]) (fields_any 5 wk 4 hn hg nn ng t a u false er W)⟩
    ⟨fun W hT => itoa_any wk hb.1.1 hb.1.2 W hT⟩
    ⟨fun W hT => itoa_any t hb.2.2.2.2.2.1.1 hb.2.2.2.2.2.1.2 W hT⟩
    ⟨fun W hT => itoa_any a hb.2.2.2.2.2.2.1.1 hb.2.2.2.2.2.2.1.2 W hT⟩
    ⟨fun W hT => itoa_any u hb.2.2.2.2.2.2.2.1.1 hb.2.2.2.2.2.2.2.1.2 W hT⟩
    ⟨fun W hT => itoa_any er hb.2.2.2.2.2.2.2.2.1 hb.2.2.2.2.2.2.2.2.2 W hT⟩
    ⟨fun W hT => handle_any hn hg hb.2.1.1 hb.2.1.2 hb.2.2.1.1 hb.2.2.1.2 W hT⟩
    ⟨fun W hT => handle_any nn ng hb.2.2.2.1.1 hb.2.2.2.1.2 hb.2.2.2.2.1.1 hb.2.2.2.2.1.2 W hT⟩ w ht)
  simp only [numS_byt, hanS_byt, lit_byt, byt_app]
  exact congrArg byt (by simp [textW, restW, kindW, opW, yesW, hasH, hasN, hasT, hasA, hasU, hasY, hasE, in3, made, tailW_cons, tailW_nil])

theorem rl_5_5 (wk hn hg nn ng t a u er : Int) (hb : BB wk ∧ BB hn ∧ BB hg ∧ BB nn ∧ BB ng ∧ BB t ∧ BB a ∧ BB u ∧ BB er)
    (hR : evRight 5 wk 5 hn hg nn ng t a u false er = true) (w : World) :
    Calls Tryd.prog 12 #[.agg (evL 5 wk 5 hn hg nn ng t a u false er)] w fun e w' => e = .returned (.string (byt (textW 5 wk 5 hn hg nn ng t a u false er))) ∧ Below w.heap.size w w' := by
  refine cast_text ?_ (rline_5_5 wk hn hg nn ng t a u false er
    (numS_size wk hb.1.1 hb.1.2)
    ⟨fun W => cast_bool hR (right_any 5 wk 5 hn hg nn ng t a u false er W)⟩
    ⟨fun W => cast_bool (show hasH 5 5 = false by simp [hasH, hasN, hasT, hasA, hasU, hasY, hasE, in3, made]) (has_h 5 wk 5 hn hg nn ng t a u false er W)⟩
    ⟨fun W => cast_bool (show hasN 5 5 er = false by simp [hasH, hasN, hasT, hasA, hasU, hasY, hasE, in3, made]) (has_n 5 wk 5 hn hg nn ng t a u false er W)⟩
    ⟨fun W => cast_bool (show hasT 5 5 er = false by simp [hasH, hasN, hasT, hasA, hasU, hasY, hasE, in3, made]) (has_t 5 wk 5 hn hg nn ng t a u false er W)⟩
    ⟨fun W => cast_bool (show hasA 5 5 = false by simp [hasH, hasN, hasT, hasA, hasU, hasY, hasE, in3, made]) (has_a 5 wk 5 hn hg nn ng t a u false er W)⟩
    ⟨fun W => cast_bool (show hasU 5 5 = false by simp [hasH, hasN, hasT, hasA, hasU, hasY, hasE, in3, made]) (has_u 5 wk 5 hn hg nn ng t a u false er W)⟩
    ⟨fun W => cast_bool (show hasY 5 5 = false by simp [hasH, hasN, hasT, hasA, hasU, hasY, hasE, in3, made]) (has_y 5 wk 5 hn hg nn ng t a u false er W)⟩
    ⟨fun W => cast_bool (show hasE 5 5 = false by simp [hasH, hasN, hasT, hasA, hasU, hasY, hasE, in3, made]) (has_e 5 wk 5 hn hg nn ng t a u false er W)⟩
    ⟨fun W => dec_any wk.natAbs wk (Nat.le_refl _) hb.1.1 hb.1.2 W⟩ w)
  simp only [numS_byt, hanS_byt, lit_byt, byt_app]
  exact congrArg byt (by simp [textW, restW, kindW, opW, yesW, hasH, hasN, hasT, hasA, hasU, hasY, hasE, in3, made, tailW_cons, tailW_nil])

theorem el_5_5 (wk hn hg nn ng t a u er : Int) (hb : BB wk ∧ BB hn ∧ BB hg ∧ BB nn ∧ BB ng ∧ BB t ∧ BB a ∧ BB u ∧ BB er)
    (hR : evRight 5 wk 5 hn hg nn ng t a u false er = true) (w : World) (ht : Tab w) :
    Calls Tryd.prog 11 #[.agg (evL 5 wk 5 hn hg nn ng t a u false er)] w fun e w' => e = .returned (.string (byt (textW 5 wk 5 hn hg nn ng t a u false er))) ∧ Below w.heap.size w w' := by
  refine cast_text ?_ (eline_5_5 wk hn hg nn ng t a u er
    (numS_size wk hb.1.1 hb.1.2)
    (numS_size t hb.2.2.2.2.2.1.1 hb.2.2.2.2.2.1.2)
    (numS_size a hb.2.2.2.2.2.2.1.1 hb.2.2.2.2.2.2.1.2)
    (numS_size u hb.2.2.2.2.2.2.2.1.1 hb.2.2.2.2.2.2.2.1.2)
    (numS_size er hb.2.2.2.2.2.2.2.2.1 hb.2.2.2.2.2.2.2.2.2)
    (hanS_size hn hg hb.2.1.1 hb.2.1.2 hb.2.2.1.1 hb.2.2.1.2)
    (hanS_size nn ng hb.2.2.2.1.1 hb.2.2.2.1.2 hb.2.2.2.2.1.1 hb.2.2.2.2.1.2)
    ⟨fun W => cast_bool hR (event_right 5 wk 5 hn hg nn ng t a u false er W)⟩
    ⟨fun W => cast_fields (p' := (0, true)) (by by_cases z : er = 0 <;> simp (decide := true) [fieldsF, pickL, z]) (fields_any 5 wk 5 hn hg nn ng t a u false er W)⟩
    ⟨fun W hT => itoa_any wk hb.1.1 hb.1.2 W hT⟩
    ⟨fun W hT => itoa_any t hb.2.2.2.2.2.1.1 hb.2.2.2.2.2.1.2 W hT⟩
    ⟨fun W hT => itoa_any a hb.2.2.2.2.2.2.1.1 hb.2.2.2.2.2.2.1.2 W hT⟩
    ⟨fun W hT => itoa_any u hb.2.2.2.2.2.2.2.1.1 hb.2.2.2.2.2.2.2.1.2 W hT⟩
    ⟨fun W hT => itoa_any er hb.2.2.2.2.2.2.2.2.1 hb.2.2.2.2.2.2.2.2.2 W hT⟩
    ⟨fun W hT => handle_any hn hg hb.2.1.1 hb.2.1.2 hb.2.2.1.1 hb.2.2.1.2 W hT⟩
    ⟨fun W hT => handle_any nn ng hb.2.2.2.1.1 hb.2.2.2.1.2 hb.2.2.2.2.1.1 hb.2.2.2.2.1.2 W hT⟩ w ht)
  simp only [numS_byt, hanS_byt, lit_byt, byt_app]
  exact congrArg byt (by simp [textW, restW, kindW, opW, yesW, hasH, hasN, hasT, hasA, hasU, hasY, hasE, in3, made, tailW_cons, tailW_nil])

theorem rl_5_6 (wk hn hg nn ng t a u er : Int) (hb : BB wk ∧ BB hn ∧ BB hg ∧ BB nn ∧ BB ng ∧ BB t ∧ BB a ∧ BB u ∧ BB er)
    (hR : evRight 5 wk 6 hn hg nn ng t a u false er = true) (w : World) :
    Calls Tryd.prog 12 #[.agg (evL 5 wk 6 hn hg nn ng t a u false er)] w fun e w' => e = .returned (.string (byt (textW 5 wk 6 hn hg nn ng t a u false er))) ∧ Below w.heap.size w w' := by
  refine cast_text ?_ (rline_5_6 wk hn hg nn ng t a u false er
    (numS_size wk hb.1.1 hb.1.2)
    (numS_size t hb.2.2.2.2.2.1.1 hb.2.2.2.2.2.1.2)
    ⟨fun W => cast_bool hR (right_any 5 wk 6 hn hg nn ng t a u false er W)⟩
    ⟨fun W => cast_bool (show hasH 5 6 = false by simp [hasH, hasN, hasT, hasA, hasU, hasY, hasE, in3, made]) (has_h 5 wk 6 hn hg nn ng t a u false er W)⟩
    ⟨fun W => cast_bool (show hasN 5 6 er = false by simp [hasH, hasN, hasT, hasA, hasU, hasY, hasE, in3, made]) (has_n 5 wk 6 hn hg nn ng t a u false er W)⟩
    ⟨fun W => cast_bool (show hasT 5 6 er = true by simp [hasH, hasN, hasT, hasA, hasU, hasY, hasE, in3, made]) (has_t 5 wk 6 hn hg nn ng t a u false er W)⟩
    ⟨fun W => cast_bool (show hasA 5 6 = false by simp [hasH, hasN, hasT, hasA, hasU, hasY, hasE, in3, made]) (has_a 5 wk 6 hn hg nn ng t a u false er W)⟩
    ⟨fun W => cast_bool (show hasU 5 6 = false by simp [hasH, hasN, hasT, hasA, hasU, hasY, hasE, in3, made]) (has_u 5 wk 6 hn hg nn ng t a u false er W)⟩
    ⟨fun W => cast_bool (show hasY 5 6 = false by simp [hasH, hasN, hasT, hasA, hasU, hasY, hasE, in3, made]) (has_y 5 wk 6 hn hg nn ng t a u false er W)⟩
    ⟨fun W => cast_bool (show hasE 5 6 = false by simp [hasH, hasN, hasT, hasA, hasU, hasY, hasE, in3, made]) (has_e 5 wk 6 hn hg nn ng t a u false er W)⟩
    ⟨fun W => dec_any wk.natAbs wk (Nat.le_refl _) hb.1.1 hb.1.2 W⟩
    ⟨fun W => dec_any t.natAbs t (Nat.le_refl _) hb.2.2.2.2.2.1.1 hb.2.2.2.2.2.1.2 W⟩ w)
  simp only [numS_byt, hanS_byt, lit_byt, byt_app]
  exact congrArg byt (by simp [textW, restW, kindW, opW, yesW, hasH, hasN, hasT, hasA, hasU, hasY, hasE, in3, made, tailW_cons, tailW_nil])

theorem el_5_6 (wk hn hg nn ng t a u er : Int) (hb : BB wk ∧ BB hn ∧ BB hg ∧ BB nn ∧ BB ng ∧ BB t ∧ BB a ∧ BB u ∧ BB er)
    (hR : evRight 5 wk 6 hn hg nn ng t a u false er = true) (w : World) (ht : Tab w) :
    Calls Tryd.prog 11 #[.agg (evL 5 wk 6 hn hg nn ng t a u false er)] w fun e w' => e = .returned (.string (byt (textW 5 wk 6 hn hg nn ng t a u false er))) ∧ Below w.heap.size w w' := by
  refine cast_text ?_ (eline_5_6 wk hn hg nn ng t a u er
    (numS_size wk hb.1.1 hb.1.2)
    (numS_size t hb.2.2.2.2.2.1.1 hb.2.2.2.2.2.1.2)
    (numS_size a hb.2.2.2.2.2.2.1.1 hb.2.2.2.2.2.2.1.2)
    (numS_size u hb.2.2.2.2.2.2.2.1.1 hb.2.2.2.2.2.2.2.1.2)
    (numS_size er hb.2.2.2.2.2.2.2.2.1 hb.2.2.2.2.2.2.2.2.2)
    (hanS_size hn hg hb.2.1.1 hb.2.1.2 hb.2.2.1.1 hb.2.2.1.2)
    (hanS_size nn ng hb.2.2.2.1.1 hb.2.2.2.1.2 hb.2.2.2.2.1.1 hb.2.2.2.2.1.2)
    ⟨fun W => cast_bool hR (event_right 5 wk 6 hn hg nn ng t a u false er W)⟩
    ⟨fun W => cast_fields (p' := (4, true)) (by by_cases z : er = 0 <;> simp (decide := true) [fieldsF, pickL, z]) (fields_any 5 wk 6 hn hg nn ng t a u false er W)⟩
    ⟨fun W hT => itoa_any wk hb.1.1 hb.1.2 W hT⟩
    ⟨fun W hT => itoa_any t hb.2.2.2.2.2.1.1 hb.2.2.2.2.2.1.2 W hT⟩
    ⟨fun W hT => itoa_any a hb.2.2.2.2.2.2.1.1 hb.2.2.2.2.2.2.1.2 W hT⟩
    ⟨fun W hT => itoa_any u hb.2.2.2.2.2.2.2.1.1 hb.2.2.2.2.2.2.2.1.2 W hT⟩
    ⟨fun W hT => itoa_any er hb.2.2.2.2.2.2.2.2.1 hb.2.2.2.2.2.2.2.2.2 W hT⟩
    ⟨fun W hT => handle_any hn hg hb.2.1.1 hb.2.1.2 hb.2.2.1.1 hb.2.2.1.2 W hT⟩
    ⟨fun W hT => handle_any nn ng hb.2.2.2.1.1 hb.2.2.2.1.2 hb.2.2.2.2.1.1 hb.2.2.2.2.1.2 W hT⟩ w ht)
  simp only [numS_byt, hanS_byt, lit_byt, byt_app]
  exact congrArg byt (by simp [textW, restW, kindW, opW, yesW, hasH, hasN, hasT, hasA, hasU, hasY, hasE, in3, made, tailW_cons, tailW_nil])

theorem rl_5_7 (wk hn hg nn ng t a u er : Int) (hb : BB wk ∧ BB hn ∧ BB hg ∧ BB nn ∧ BB ng ∧ BB t ∧ BB a ∧ BB u ∧ BB er)
    (hR : evRight 5 wk 7 hn hg nn ng t a u false er = true) (w : World) :
    Calls Tryd.prog 12 #[.agg (evL 5 wk 7 hn hg nn ng t a u false er)] w fun e w' => e = .returned (.string (byt (textW 5 wk 7 hn hg nn ng t a u false er))) ∧ Below w.heap.size w w' := by
  refine cast_text ?_ (rline_5_7 wk hn hg nn ng t a u false er
    (numS_size wk hb.1.1 hb.1.2)
    (numS_size t hb.2.2.2.2.2.1.1 hb.2.2.2.2.2.1.2)
    ⟨fun W => cast_bool hR (right_any 5 wk 7 hn hg nn ng t a u false er W)⟩
    ⟨fun W => cast_bool (show hasH 5 7 = false by simp [hasH, hasN, hasT, hasA, hasU, hasY, hasE, in3, made]) (has_h 5 wk 7 hn hg nn ng t a u false er W)⟩
    ⟨fun W => cast_bool (show hasN 5 7 er = false by simp [hasH, hasN, hasT, hasA, hasU, hasY, hasE, in3, made]) (has_n 5 wk 7 hn hg nn ng t a u false er W)⟩
    ⟨fun W => cast_bool (show hasT 5 7 er = true by simp [hasH, hasN, hasT, hasA, hasU, hasY, hasE, in3, made]) (has_t 5 wk 7 hn hg nn ng t a u false er W)⟩
    ⟨fun W => cast_bool (show hasA 5 7 = false by simp [hasH, hasN, hasT, hasA, hasU, hasY, hasE, in3, made]) (has_a 5 wk 7 hn hg nn ng t a u false er W)⟩
    ⟨fun W => cast_bool (show hasU 5 7 = false by simp [hasH, hasN, hasT, hasA, hasU, hasY, hasE, in3, made]) (has_u 5 wk 7 hn hg nn ng t a u false er W)⟩
    ⟨fun W => cast_bool (show hasY 5 7 = false by simp [hasH, hasN, hasT, hasA, hasU, hasY, hasE, in3, made]) (has_y 5 wk 7 hn hg nn ng t a u false er W)⟩
    ⟨fun W => cast_bool (show hasE 5 7 = false by simp [hasH, hasN, hasT, hasA, hasU, hasY, hasE, in3, made]) (has_e 5 wk 7 hn hg nn ng t a u false er W)⟩
    ⟨fun W => dec_any wk.natAbs wk (Nat.le_refl _) hb.1.1 hb.1.2 W⟩
    ⟨fun W => dec_any t.natAbs t (Nat.le_refl _) hb.2.2.2.2.2.1.1 hb.2.2.2.2.2.1.2 W⟩ w)
  simp only [numS_byt, hanS_byt, lit_byt, byt_app]
  exact congrArg byt (by simp [textW, restW, kindW, opW, yesW, hasH, hasN, hasT, hasA, hasU, hasY, hasE, in3, made, tailW_cons, tailW_nil])

theorem el_5_7 (wk hn hg nn ng t a u er : Int) (hb : BB wk ∧ BB hn ∧ BB hg ∧ BB nn ∧ BB ng ∧ BB t ∧ BB a ∧ BB u ∧ BB er)
    (hR : evRight 5 wk 7 hn hg nn ng t a u false er = true) (w : World) (ht : Tab w) :
    Calls Tryd.prog 11 #[.agg (evL 5 wk 7 hn hg nn ng t a u false er)] w fun e w' => e = .returned (.string (byt (textW 5 wk 7 hn hg nn ng t a u false er))) ∧ Below w.heap.size w w' := by
  refine cast_text ?_ (eline_5_7 wk hn hg nn ng t a u er
    (numS_size wk hb.1.1 hb.1.2)
    (numS_size t hb.2.2.2.2.2.1.1 hb.2.2.2.2.2.1.2)
    (numS_size a hb.2.2.2.2.2.2.1.1 hb.2.2.2.2.2.2.1.2)
    (numS_size u hb.2.2.2.2.2.2.2.1.1 hb.2.2.2.2.2.2.2.1.2)
    (numS_size er hb.2.2.2.2.2.2.2.2.1 hb.2.2.2.2.2.2.2.2.2)
    (hanS_size hn hg hb.2.1.1 hb.2.1.2 hb.2.2.1.1 hb.2.2.1.2)
    (hanS_size nn ng hb.2.2.2.1.1 hb.2.2.2.1.2 hb.2.2.2.2.1.1 hb.2.2.2.2.1.2)
    ⟨fun W => cast_bool hR (event_right 5 wk 7 hn hg nn ng t a u false er W)⟩
    ⟨fun W => cast_fields (p' := (4, true)) (by by_cases z : er = 0 <;> simp (decide := true) [fieldsF, pickL, z]) (fields_any 5 wk 7 hn hg nn ng t a u false er W)⟩
    ⟨fun W hT => itoa_any wk hb.1.1 hb.1.2 W hT⟩
    ⟨fun W hT => itoa_any t hb.2.2.2.2.2.1.1 hb.2.2.2.2.2.1.2 W hT⟩
    ⟨fun W hT => itoa_any a hb.2.2.2.2.2.2.1.1 hb.2.2.2.2.2.2.1.2 W hT⟩
    ⟨fun W hT => itoa_any u hb.2.2.2.2.2.2.2.1.1 hb.2.2.2.2.2.2.2.1.2 W hT⟩
    ⟨fun W hT => itoa_any er hb.2.2.2.2.2.2.2.2.1 hb.2.2.2.2.2.2.2.2.2 W hT⟩
    ⟨fun W hT => handle_any hn hg hb.2.1.1 hb.2.1.2 hb.2.2.1.1 hb.2.2.1.2 W hT⟩
    ⟨fun W hT => handle_any nn ng hb.2.2.2.1.1 hb.2.2.2.1.2 hb.2.2.2.2.1.1 hb.2.2.2.2.1.2 W hT⟩ w ht)
  simp only [numS_byt, hanS_byt, lit_byt, byt_app]
  exact congrArg byt (by simp [textW, restW, kindW, opW, yesW, hasH, hasN, hasT, hasA, hasU, hasY, hasE, in3, made, tailW_cons, tailW_nil])

theorem ref_line_any (k wk op hn hg nn ng t a u : Int) (y : Bool) (er : Int) (hb : BB wk ∧ BB hn ∧ BB hg ∧ BB nn ∧ BB ng ∧ BB t ∧ BB a ∧ BB u ∧ BB er)
    (hR : evRight k wk op hn hg nn ng t a u y er = true) (w : World) :
    Calls Tryd.prog 12 #[.agg (evL k wk op hn hg nn ng t a u y er)] w fun e w' => e = .returned (.string (byt (textW k wk op hn hg nn ng t a u y er))) ∧ Below w.heap.size w w' := by
  have hk : kindB k wk op = true := by simp only [evRight, Bool.and_eq_true] at hR; exact hR.1.1.1.1
  have hE : emptyB k op hn hg nn ng t a u y er = true := by simp only [evRight, Bool.and_eq_true] at hR; exact hR.1.1.1.2
  have hY : hasY k op = true ∨ y = false := by
    simp only [emptyB, Bool.and_eq_true, Bool.or_eq_true] at hE
    rcases hE.2.1.2 with h | h
    · exact .inl h
    · exact .inr (by simpa using h)
  rcases kind_cases hk with ⟨rfl, rfl, rfl⟩ | ⟨rfl, rfl⟩ | ⟨rfl, rfl | rfl | rfl | rfl | rfl | rfl | rfl⟩ | ⟨rfl, rfl | rfl | rfl | rfl⟩ | ⟨rfl, rfl | rfl | rfl | rfl | rfl | rfl | rfl⟩
  · obtain rfl : y = false := hY.resolve_left (by decide)
    exact rl_1_0 0 hn hg nn ng t a u er hb hR w
  · obtain rfl : y = false := hY.resolve_left (by decide)
    exact rl_4_0 wk hn hg nn ng t a u er hb hR w
  · obtain rfl : y = false := hY.resolve_left (by decide)
    exact rl_2_1 wk hn hg nn ng t a u er hb hR w
  · obtain rfl : y = false := hY.resolve_left (by decide)
    exact rl_2_2 wk hn hg nn ng t a u er hb hR w
  · obtain rfl : y = false := hY.resolve_left (by decide)
    exact rl_2_3 wk hn hg nn ng t a u er hb hR w
  · obtain rfl : y = false := hY.resolve_left (by decide)
    exact rl_2_4 wk hn hg nn ng t a u er hb hR w
  · obtain rfl : y = false := hY.resolve_left (by decide)
    exact rl_2_5 wk hn hg nn ng t a u er hb hR w
  · obtain rfl : y = false := hY.resolve_left (by decide)
    exact rl_2_6 wk hn hg nn ng t a u er hb hR w
  · obtain rfl : y = false := hY.resolve_left (by decide)
    exact rl_2_7 wk hn hg nn ng t a u er hb hR w
  · obtain rfl : y = false := hY.resolve_left (by decide)
    rcases Bool.eq_false_or_eq_true (er == 0) with he | he
    · exact rl_3_1_ok wk hn hg nn ng t a u er he hb hR w
    · exact rl_3_1_no wk hn hg nn ng t a u er he hb hR w
  · cases y
    · exact rl_3_2_not wk hn hg nn ng t a u er hb hR w
    · exact rl_3_2_yes wk hn hg nn ng t a u er hb hR w
  · obtain rfl : y = false := hY.resolve_left (by decide)
    rcases Bool.eq_false_or_eq_true (er == 0) with he | he
    · exact rl_3_3_ok wk hn hg nn ng t a u er he hb hR w
    · exact rl_3_3_no wk hn hg nn ng t a u er he hb hR w
  · obtain rfl : y = false := hY.resolve_left (by decide)
    exact rl_3_4 wk hn hg nn ng t a u er hb hR w
  · obtain rfl : y = false := hY.resolve_left (by decide)
    rcases Bool.eq_false_or_eq_true (er == 0) with he | he
    · exact rl_5_1_ok wk hn hg nn ng t a u er he hb hR w
    · exact rl_5_1_no wk hn hg nn ng t a u er he hb hR w
  · cases y
    · exact rl_5_2_not wk hn hg nn ng t a u er hb hR w
    · exact rl_5_2_yes wk hn hg nn ng t a u er hb hR w
  · obtain rfl : y = false := hY.resolve_left (by decide)
    rcases Bool.eq_false_or_eq_true (er == 0) with he | he
    · exact rl_5_3_ok wk hn hg nn ng t a u er he hb hR w
    · exact rl_5_3_no wk hn hg nn ng t a u er he hb hR w
  · obtain rfl : y = false := hY.resolve_left (by decide)
    exact rl_5_4 wk hn hg nn ng t a u er hb hR w
  · obtain rfl : y = false := hY.resolve_left (by decide)
    exact rl_5_5 wk hn hg nn ng t a u er hb hR w
  · obtain rfl : y = false := hY.resolve_left (by decide)
    exact rl_5_6 wk hn hg nn ng t a u er hb hR w
  · obtain rfl : y = false := hY.resolve_left (by decide)
    exact rl_5_7 wk hn hg nn ng t a u er hb hR w

theorem line_any (k wk op hn hg nn ng t a u : Int) (y : Bool) (er : Int) (hb : BB wk ∧ BB hn ∧ BB hg ∧ BB nn ∧ BB ng ∧ BB t ∧ BB a ∧ BB u ∧ BB er)
    (hR : evRight k wk op hn hg nn ng t a u y er = true) (w : World) (ht : Tab w) :
    Calls Tryd.prog 11 #[.agg (evL k wk op hn hg nn ng t a u y er)] w fun e w' => e = .returned (.string (byt (textW k wk op hn hg nn ng t a u y er))) ∧ Below w.heap.size w w' := by
  have hk : kindB k wk op = true := by simp only [evRight, Bool.and_eq_true] at hR; exact hR.1.1.1.1
  have hE : emptyB k op hn hg nn ng t a u y er = true := by simp only [evRight, Bool.and_eq_true] at hR; exact hR.1.1.1.2
  have hY : hasY k op = true ∨ y = false := by
    simp only [emptyB, Bool.and_eq_true, Bool.or_eq_true] at hE
    rcases hE.2.1.2 with h | h
    · exact .inl h
    · exact .inr (by simpa using h)
  rcases kind_cases hk with ⟨rfl, rfl, rfl⟩ | ⟨rfl, rfl⟩ | ⟨rfl, rfl | rfl | rfl | rfl | rfl | rfl | rfl⟩ | ⟨rfl, rfl | rfl | rfl | rfl⟩ | ⟨rfl, rfl | rfl | rfl | rfl | rfl | rfl | rfl⟩
  · obtain rfl : y = false := hY.resolve_left (by decide)
    exact el_1_0 0 hn hg nn ng t a u er hb hR w ht
  · obtain rfl : y = false := hY.resolve_left (by decide)
    exact el_4_0 wk hn hg nn ng t a u er hb hR w ht
  · obtain rfl : y = false := hY.resolve_left (by decide)
    exact el_2_1 wk hn hg nn ng t a u er hb hR w ht
  · obtain rfl : y = false := hY.resolve_left (by decide)
    exact el_2_2 wk hn hg nn ng t a u er hb hR w ht
  · obtain rfl : y = false := hY.resolve_left (by decide)
    exact el_2_3 wk hn hg nn ng t a u er hb hR w ht
  · obtain rfl : y = false := hY.resolve_left (by decide)
    exact el_2_4 wk hn hg nn ng t a u er hb hR w ht
  · obtain rfl : y = false := hY.resolve_left (by decide)
    exact el_2_5 wk hn hg nn ng t a u er hb hR w ht
  · obtain rfl : y = false := hY.resolve_left (by decide)
    exact el_2_6 wk hn hg nn ng t a u er hb hR w ht
  · obtain rfl : y = false := hY.resolve_left (by decide)
    exact el_2_7 wk hn hg nn ng t a u er hb hR w ht
  · obtain rfl : y = false := hY.resolve_left (by decide)
    rcases Bool.eq_false_or_eq_true (er == 0) with he | he
    · exact el_3_1_ok wk hn hg nn ng t a u er he hb hR w ht
    · exact el_3_1_no wk hn hg nn ng t a u er he hb hR w ht
  · cases y
    · exact el_3_2_not wk hn hg nn ng t a u er hb hR w ht
    · exact el_3_2_yes wk hn hg nn ng t a u er hb hR w ht
  · obtain rfl : y = false := hY.resolve_left (by decide)
    rcases Bool.eq_false_or_eq_true (er == 0) with he | he
    · exact el_3_3_ok wk hn hg nn ng t a u er he hb hR w ht
    · exact el_3_3_no wk hn hg nn ng t a u er he hb hR w ht
  · obtain rfl : y = false := hY.resolve_left (by decide)
    exact el_3_4 wk hn hg nn ng t a u er hb hR w ht
  · obtain rfl : y = false := hY.resolve_left (by decide)
    rcases Bool.eq_false_or_eq_true (er == 0) with he | he
    · exact el_5_1_ok wk hn hg nn ng t a u er he hb hR w ht
    · exact el_5_1_no wk hn hg nn ng t a u er he hb hR w ht
  · cases y
    · exact el_5_2_not wk hn hg nn ng t a u er hb hR w ht
    · exact el_5_2_yes wk hn hg nn ng t a u er hb hR w ht
  · obtain rfl : y = false := hY.resolve_left (by decide)
    rcases Bool.eq_false_or_eq_true (er == 0) with he | he
    · exact el_5_3_ok wk hn hg nn ng t a u er he hb hR w ht
    · exact el_5_3_no wk hn hg nn ng t a u er he hb hR w ht
  · obtain rfl : y = false := hY.resolve_left (by decide)
    exact el_5_4 wk hn hg nn ng t a u er hb hR w ht
  · obtain rfl : y = false := hY.resolve_left (by decide)
    exact el_5_5 wk hn hg nn ng t a u er hb hR w ht
  · obtain rfl : y = false := hY.resolve_left (by decide)
    exact el_5_6 wk hn hg nn ng t a u er hb hR w ht
  · obtain rfl : y = false := hY.resolve_left (by decide)
    exact el_5_7 wk hn hg nn ng t a u er hb hR w ht

end Go.Proofs.YthniclbmpeklmaaDoor.Ev
namespace Go.Proofs.YthniclbmpeklmaaDoor.Ev
open Go.RowKit Go.Proofs.YthniclbmpeklmaaDoorW.PrintWords Go.Proofs.YthniclbmpeklmaaDoorW.PrintLast Go.Proofs.YthniclbmpeklmaaDoorW.PrintMore
set_option linter.unusedVariables false
set_option linter.unusedSimpArgs false
set_option maxHeartbeats 4000000 in
set_option maxRecDepth 100000 in
theorem rline_wrong (k wk op hn hg nn ng t a u : Int) (y : Bool) (er : Int)
    (CR : Aside0 (∀ W, Calls Tryd.prog 10 #[.agg (evL k wk op hn hg nn ng t a u y er)] W fun e w' => e = .returned (.bool false) ∧ Below W.heap.size W w'))
    (w : World) : Calls Tryd.prog 12 #[.agg (evL k wk op hn hg nn ng t a u y er)] w fun e w' => e = .returned (.string ⟨#[]⟩) ∧ Below w.heap.size w w' := by
  have hu := Tryd.underlying25
  have HT := Aside0.mk (One.start w (.cells (evL k wk op hn hg nn ng t a u y er) 25))
  go_enter Tryd.func12, Tryd.ntmps12
  go_wp2_with (first | (go_at_call 10; (with_reducible refine (CR.out _).mono ?_); rintro e w1 ⟨rfl, hb⟩; have T1 := Aside0.mk (One.step (by first | exact HT.out | exact HT.out.alloc _ | exact (HT.out.alloc _).alloc _) hb); clear HT hb; have HT := T1; clear T1))
  all_goals
    go_ret
    exact ⟨rfl, by first | exact HT.out.below | exact (HT.out.alloc _).below⟩
set_option maxHeartbeats 4000000 in
set_option maxRecDepth 100000 in
theorem eline_wrong (k wk op hn hg nn ng t a u : Int) (y : Bool) (er : Int)
    (CR : Aside0 (∀ W, Calls Tryd.prog 8 #[.agg (evL k wk op hn hg nn ng t a u y er)] W fun e w' => e = .returned (.bool false) ∧ Below W.heap.size W w'))
    (w : World) : Calls Tryd.prog 11 #[.agg (evL k wk op hn hg nn ng t a u y er)] w fun e w' => e = .returned (.string ⟨#[]⟩) ∧ Below w.heap.size w w' := by
  have hu := Tryd.underlying31
  have HT := Aside0.mk (One.start w (.cells (evL k wk op hn hg nn ng t a u y er) 31))
  go_enter Tryd.func11, Tryd.ntmps11
  go_wp2_with (first | (go_at_call 8; (with_reducible refine (CR.out _).mono ?_); rintro e w1 ⟨rfl, hb⟩; have T1 := Aside0.mk (One.step (by first | exact HT.out | exact HT.out.alloc _ | exact (HT.out.alloc _).alloc _) hb); clear HT hb; have HT := T1; clear T1))
  all_goals
    go_ret
    exact ⟨rfl, by first | exact HT.out.below | exact (HT.out.alloc _).below⟩
/-- Does a number fit into 64 bits? -/
def bbB (n : Int) : Bool := decide (-9223372036854775808 ≤ n) && decide (n ≤ 9223372036854775807)
theorem bbB_of {n : Int} (h0 : -9223372036854775808 ≤ n) (h1 : n ≤ 9223372036854775807) : bbB n = true := by simp [bbB, h0, h1]
theorem BB_of {n : Int} (h : bbB n = true) : BB n := by simpa [bbB, BB] using h
/-- Do all numbers of an event fit? -/
def fitB (wk hn hg nn ng t a u er : Int) : Bool := bbB wk && bbB hn && bbB hg && bbB nn && bbB ng && bbB t && bbB a && bbB u && bbB er
/-- A Line's answer. -/
def lineB (k wk op hn hg nn ng t a u : Int) (y : Bool) (er : Int) : ByteArray := if evRight k wk op hn hg nn ng t a u y er then byt (textW k wk op hn hg nn ng t a u y er) else ⟨#[]⟩
def lineO (k wk op hn hg nn ng t a u : Int) (y : Bool) (er : Int) : Option ByteArray := if fitB wk hn hg nn ng t a u er then some (lineB k wk op hn hg nn ng t a u y er) else none
theorem lineO_some {k wk op hn hg nn ng t a u : Int} {y : Bool} {er : Int} {r : ByteArray} (h : lineO k wk op hn hg nn ng t a u y er = some r) :
    (BB wk ∧ BB hn ∧ BB hg ∧ BB nn ∧ BB ng ∧ BB t ∧ BB a ∧ BB u ∧ BB er) ∧ r = lineB k wk op hn hg nn ng t a u y er := by
  unfold lineO at h
  split at h
  · rename_i hf
    simp only [fitB, Bool.and_eq_true] at hf
    obtain ⟨⟨⟨⟨⟨⟨⟨⟨h1, h2⟩, h3⟩, h4⟩, h5⟩, h6⟩, h7⟩, h8⟩, h9⟩ := hf
    exact ⟨⟨BB_of h1, BB_of h2, BB_of h3, BB_of h4, BB_of h5, BB_of h6, BB_of h7, BB_of h8, BB_of h9⟩, (Option.some.inj h).symm⟩
  · cases h
theorem ref_line_calls {k wk op hn hg nn ng t a u : Int} {y : Bool} {er : Int} {r : ByteArray} (h : lineO k wk op hn hg nn ng t a u y er = some r) (w : World) :
    Calls Tryd.prog 12 #[.agg (evL k wk op hn hg nn ng t a u y er)] w fun e w' => e = .returned (.string r) ∧ Below w.heap.size w w' := by
  obtain ⟨hb, rfl⟩ := lineO_some h
  cases hR : evRight k wk op hn hg nn ng t a u y er with
  | true =>
    refine cast_text ?_ (ref_line_any k wk op hn hg nn ng t a u y er hb hR w)
    rw [lineB, if_pos hR]
  | false =>
    refine cast_text ?_ (rline_wrong k wk op hn hg nn ng t a u y er ⟨fun W => cast_bool hR (right_any k wk op hn hg nn ng t a u y er W)⟩ w)
    rw [lineB, if_neg (by rw [hR]; decide)]
theorem line_calls {k wk op hn hg nn ng t a u : Int} {y : Bool} {er : Int} {r : ByteArray} (h : lineO k wk op hn hg nn ng t a u y er = some r) (w : World) (ht : Tab w) :
    Calls Tryd.prog 11 #[.agg (evL k wk op hn hg nn ng t a u y er)] w fun e w' => e = .returned (.string r) ∧ Below w.heap.size w w' := by
  obtain ⟨hb, rfl⟩ := lineO_some h
  cases hR : evRight k wk op hn hg nn ng t a u y er with
  | true =>
    refine cast_text ?_ (line_any k wk op hn hg nn ng t a u y er hb hR w ht)
    rw [lineB, if_pos hR]
  | false =>
    refine cast_text ?_ (eline_wrong k wk op hn hg nn ng t a u y er ⟨fun W => cast_bool hR (event_right k wk op hn hg nn ng t a u y er W)⟩ w)
    rw [lineB, if_neg (by rw [hR]; decide)]
end Go.Proofs.YthniclbmpeklmaaDoor.Ev
namespace Go.Proofs.YthniclbmpeklmaaDoor.KEv
open Go.RowKit Go.Proofs.YthniclbmpeklmaaDoorW.PrintWords Go.Proofs.YthniclbmpeklmaaDoorW.PrintLast Go.Proofs.YthniclbmpeklmaaDoorW.PrintMore
attribute [local go_sem] max2_int min2_int max_two min_two max_three min_three max_four min_four   -- for this text's walks alone
set_option linter.unusedVariables false
set_option linter.unusedSimpArgs false



def errW : Option Int → Value
  | none => .nilIface
  | some c => .iface 0 (.int .i64 c)
theorem errW_none : errW none = .nilIface := rfl
theorem errW_some (c : Int) : errW (some c) = .iface 0 (.int .i64 c) := rfl

theorem info9 : (Tryd.prog.info? 9).map (fun i => (i.zero, i.size, i.bytes)) = some (some (.string ⟨#[]⟩), 1, 16) := by kernel_rfl
-- the values' own types
/-! #### struct type 28 -/
structure S28 where
  f0 : Int
  f1 : Int
def z28 : S28 := ⟨(0 : Int), (0 : Int)⟩
def k28 : Kd S28 := Kd.iso (Kd.pair (Kd.int .i64) (Kd.int .i64)) (fun x : S28 => (x.f0, x.f1))
theorem k28_open {w : World} {x : S28} {cs : List Value} (h : k28.K w x cs) : cs = [.int .i64 x.f0, .int .i64 x.f1] := by
  obtain ⟨_, _, rfl, rfl, rfl⟩ := h
  exact rfl
theorem k28_openM {w : World} {base : Nat} {ok : Nat → Prop} {x : S28} {cs : List Value} (h : k28.M w base ok x cs) : cs = [.int .i64 x.f0, .int .i64 x.f1] := by
  obtain ⟨_, _, rfl, rfl, rfl⟩ := h
  exact rfl
theorem k28_mk (w : World) (x : S28)  : k28.K w x [.int .i64 x.f0, .int .i64 x.f1] := ⟨[.int .i64 x.f0], [.int .i64 x.f1], rfl, rfl, rfl⟩
theorem k28_mkM (w : World) (base : Nat) (ok : Nat → Prop) (x : S28)  : k28.M w base ok x [.int .i64 x.f0, .int .i64 x.f1] := ⟨[.int .i64 x.f0], [.int .i64 x.f1], rfl, rfl, rfl⟩
def rd_T28 (xs : List S28) (i : Int) : S28 := xs.getD i.toNat z28
theorem at_T28 {w : World} {A : Option Addr} {n : Nat} {xs : List S28} (h : Kd.C k28 w A n xs) (i : Int) (h0 : 0 ≤ i) (h1 : i < n) : ∃ ad , A = some ad ∧ w.cell? (ad.add (i.toNat * 2)) = some (.int .i64 (rd_T28 xs i).f0) ∧ w.cell? ⟨(ad.add (i.toNat * 2)).block, (ad.add (i.toNat * 2)).off + 1, none⟩ = some (.int .i64 (rd_T28 xs i).f1) := by
  obtain ⟨ad, c, e, _, hK, hc0⟩ := Kd.C_get h z28 i h0 h1
  have hc : ∀ j u, c[j]? = some u → w.cell? (ad.add (i.toNat * 2 + j)) = some u := hc0
  obtain rfl := k28_open hK
  exact ⟨ad, e, hc 0 _ rfl, by rw [← add_field _ _ 1 (by omega)]; exact hc 1 _ rfl⟩

/-! #### struct type 31 -/
structure S31 where
  f0 : Int
  f1 : Int
  f2 : Int
  f3 : S28
  f4 : S28
  f5 : Int
  f6 : Int
  f7 : Int
  f8 : Bool
  f9 : Int
def z31 : S31 := ⟨(0 : Int), (0 : Int), (0 : Int), z28, z28, (0 : Int), (0 : Int), (0 : Int), false, (0 : Int)⟩
def k31 : Kd S31 := Kd.iso (Kd.pair (Kd.int .i64) (Kd.pair (Kd.int .i64) (Kd.pair (Kd.int .i64) (Kd.pair k28 (Kd.pair k28 (Kd.pair (Kd.int .i64) (Kd.pair (Kd.int .i64) (Kd.pair (Kd.int .i64) (Kd.pair Kd.bool (Kd.int .i64)))))))))) (fun x : S31 => (x.f0, x.f1, x.f2, x.f3, x.f4, x.f5, x.f6, x.f7, x.f8, x.f9))
theorem k31_open {w : World} {x : S31} {cs : List Value} (h : k31.K w x cs) : cs = [.int .i64 x.f0, .int .i64 x.f1, .int .i64 x.f2, .int .i64 x.f3.f0, .int .i64 x.f3.f1, .int .i64 x.f4.f0, .int .i64 x.f4.f1, .int .i64 x.f5, .int .i64 x.f6, .int .i64 x.f7, .bool x.f8, .int .i64 x.f9] := by
  obtain ⟨_, _, rfl, rfl, ⟨_, _, rfl, rfl, ⟨_, _, rfl, rfl, ⟨_, _, rfl, s3, ⟨_, _, rfl, s5, ⟨_, _, rfl, rfl, ⟨_, _, rfl, rfl, ⟨_, _, rfl, rfl, ⟨_, _, rfl, rfl, rfl⟩⟩⟩⟩⟩⟩⟩⟩⟩ := h
  obtain rfl := k28_open s3
  obtain rfl := k28_open s5
  exact rfl
theorem k31_openM {w : World} {base : Nat} {ok : Nat → Prop} {x : S31} {cs : List Value} (h : k31.M w base ok x cs) : cs = [.int .i64 x.f0, .int .i64 x.f1, .int .i64 x.f2, .int .i64 x.f3.f0, .int .i64 x.f3.f1, .int .i64 x.f4.f0, .int .i64 x.f4.f1, .int .i64 x.f5, .int .i64 x.f6, .int .i64 x.f7, .bool x.f8, .int .i64 x.f9] := by
  obtain ⟨_, _, rfl, rfl, ⟨_, _, rfl, rfl, ⟨_, _, rfl, rfl, ⟨_, _, rfl, s3, ⟨_, _, rfl, s5, ⟨_, _, rfl, rfl, ⟨_, _, rfl, rfl, ⟨_, _, rfl, rfl, ⟨_, _, rfl, rfl, rfl⟩⟩⟩⟩⟩⟩⟩⟩⟩ := h
  obtain rfl := k28_openM s3
  obtain rfl := k28_openM s5
  exact rfl
theorem k31_mk (w : World) (x : S31)  : k31.K w x [.int .i64 x.f0, .int .i64 x.f1, .int .i64 x.f2, .int .i64 x.f3.f0, .int .i64 x.f3.f1, .int .i64 x.f4.f0, .int .i64 x.f4.f1, .int .i64 x.f5, .int .i64 x.f6, .int .i64 x.f7, .bool x.f8, .int .i64 x.f9] := ⟨[.int .i64 x.f0], [.int .i64 x.f1, .int .i64 x.f2, .int .i64 x.f3.f0, .int .i64 x.f3.f1, .int .i64 x.f4.f0, .int .i64 x.f4.f1, .int .i64 x.f5, .int .i64 x.f6, .int .i64 x.f7, .bool x.f8, .int .i64 x.f9], rfl, rfl, ⟨[.int .i64 x.f1], [.int .i64 x.f2, .int .i64 x.f3.f0, .int .i64 x.f3.f1, .int .i64 x.f4.f0, .int .i64 x.f4.f1, .int .i64 x.f5, .int .i64 x.f6, .int .i64 x.f7, .bool x.f8, .int .i64 x.f9], rfl, rfl, ⟨[.int .i64 x.f2], [.int .i64 x.f3.f0, .int .i64 x.f3.f1, .int .i64 x.f4.f0, .int .i64 x.f4.f1, .int .i64 x.f5, .int .i64 x.f6, .int .i64 x.f7, .bool x.f8, .int .i64 x.f9], rfl, rfl, ⟨[.int .i64 x.f3.f0, .int .i64 x.f3.f1], [.int .i64 x.f4.f0, .int .i64 x.f4.f1, .int .i64 x.f5, .int .i64 x.f6, .int .i64 x.f7, .bool x.f8, .int .i64 x.f9], rfl, (k28_mk w x.f3 ), ⟨[.int .i64 x.f4.f0, .int .i64 x.f4.f1], [.int .i64 x.f5, .int .i64 x.f6, .int .i64 x.f7, .bool x.f8, .int .i64 x.f9], rfl, (k28_mk w x.f4 ), ⟨[.int .i64 x.f5], [.int .i64 x.f6, .int .i64 x.f7, .bool x.f8, .int .i64 x.f9], rfl, rfl, ⟨[.int .i64 x.f6], [.int .i64 x.f7, .bool x.f8, .int .i64 x.f9], rfl, rfl, ⟨[.int .i64 x.f7], [.bool x.f8, .int .i64 x.f9], rfl, rfl, ⟨[.bool x.f8], [.int .i64 x.f9], rfl, rfl, rfl⟩⟩⟩⟩⟩⟩⟩⟩⟩
theorem k31_mkM (w : World) (base : Nat) (ok : Nat → Prop) (x : S31)  : k31.M w base ok x [.int .i64 x.f0, .int .i64 x.f1, .int .i64 x.f2, .int .i64 x.f3.f0, .int .i64 x.f3.f1, .int .i64 x.f4.f0, .int .i64 x.f4.f1, .int .i64 x.f5, .int .i64 x.f6, .int .i64 x.f7, .bool x.f8, .int .i64 x.f9] := ⟨[.int .i64 x.f0], [.int .i64 x.f1, .int .i64 x.f2, .int .i64 x.f3.f0, .int .i64 x.f3.f1, .int .i64 x.f4.f0, .int .i64 x.f4.f1, .int .i64 x.f5, .int .i64 x.f6, .int .i64 x.f7, .bool x.f8, .int .i64 x.f9], rfl, rfl, ⟨[.int .i64 x.f1], [.int .i64 x.f2, .int .i64 x.f3.f0, .int .i64 x.f3.f1, .int .i64 x.f4.f0, .int .i64 x.f4.f1, .int .i64 x.f5, .int .i64 x.f6, .int .i64 x.f7, .bool x.f8, .int .i64 x.f9], rfl, rfl, ⟨[.int .i64 x.f2], [.int .i64 x.f3.f0, .int .i64 x.f3.f1, .int .i64 x.f4.f0, .int .i64 x.f4.f1, .int .i64 x.f5, .int .i64 x.f6, .int .i64 x.f7, .bool x.f8, .int .i64 x.f9], rfl, rfl, ⟨[.int .i64 x.f3.f0, .int .i64 x.f3.f1], [.int .i64 x.f4.f0, .int .i64 x.f4.f1, .int .i64 x.f5, .int .i64 x.f6, .int .i64 x.f7, .bool x.f8, .int .i64 x.f9], rfl, (k28_mkM w base ok x.f3 ), ⟨[.int .i64 x.f4.f0, .int .i64 x.f4.f1], [.int .i64 x.f5, .int .i64 x.f6, .int .i64 x.f7, .bool x.f8, .int .i64 x.f9], rfl, (k28_mkM w base ok x.f4 ), ⟨[.int .i64 x.f5], [.int .i64 x.f6, .int .i64 x.f7, .bool x.f8, .int .i64 x.f9], rfl, rfl, ⟨[.int .i64 x.f6], [.int .i64 x.f7, .bool x.f8, .int .i64 x.f9], rfl, rfl, ⟨[.int .i64 x.f7], [.bool x.f8, .int .i64 x.f9], rfl, rfl, ⟨[.bool x.f8], [.int .i64 x.f9], rfl, rfl, rfl⟩⟩⟩⟩⟩⟩⟩⟩⟩
def rd_T31 (xs : List S31) (i : Int) : S31 := xs.getD i.toNat z31
theorem at_T31 {w : World} {A : Option Addr} {n : Nat} {xs : List S31} (h : Kd.C k31 w A n xs) (i : Int) (h0 : 0 ≤ i) (h1 : i < n) : ∃ ad , A = some ad ∧ w.cell? (ad.add (i.toNat * 12)) = some (.int .i64 (rd_T31 xs i).f0) ∧ w.cell? ⟨(ad.add (i.toNat * 12)).block, (ad.add (i.toNat * 12)).off + 1, none⟩ = some (.int .i64 (rd_T31 xs i).f1) ∧ w.cell? ⟨(ad.add (i.toNat * 12)).block, (ad.add (i.toNat * 12)).off + 2, none⟩ = some (.int .i64 (rd_T31 xs i).f2) ∧ w.cell? ⟨(ad.add (i.toNat * 12)).block, (ad.add (i.toNat * 12)).off + 3, none⟩ = some (.int .i64 (rd_T31 xs i).f3.f0) ∧ w.cell? ⟨(ad.add (i.toNat * 12)).block, (ad.add (i.toNat * 12)).off + 4, none⟩ = some (.int .i64 (rd_T31 xs i).f3.f1) ∧ w.cell? ⟨(ad.add (i.toNat * 12)).block, (ad.add (i.toNat * 12)).off + 5, none⟩ = some (.int .i64 (rd_T31 xs i).f4.f0) ∧ w.cell? ⟨(ad.add (i.toNat * 12)).block, (ad.add (i.toNat * 12)).off + 6, none⟩ = some (.int .i64 (rd_T31 xs i).f4.f1) ∧ w.cell? ⟨(ad.add (i.toNat * 12)).block, (ad.add (i.toNat * 12)).off + 7, none⟩ = some (.int .i64 (rd_T31 xs i).f5) ∧ w.cell? ⟨(ad.add (i.toNat * 12)).block, (ad.add (i.toNat * 12)).off + 8, none⟩ = some (.int .i64 (rd_T31 xs i).f6) ∧ w.cell? ⟨(ad.add (i.toNat * 12)).block, (ad.add (i.toNat * 12)).off + 9, none⟩ = some (.int .i64 (rd_T31 xs i).f7) ∧ w.cell? ⟨(ad.add (i.toNat * 12)).block, (ad.add (i.toNat * 12)).off + 10, none⟩ = some (.bool (rd_T31 xs i).f8) ∧ w.cell? ⟨(ad.add (i.toNat * 12)).block, (ad.add (i.toNat * 12)).off + 11, none⟩ = some (.int .i64 (rd_T31 xs i).f9) := by
  obtain ⟨ad, c, e, _, hK, hc0⟩ := Kd.C_get h z31 i h0 h1
  have hc : ∀ j u, c[j]? = some u → w.cell? (ad.add (i.toNat * 12 + j)) = some u := hc0
  obtain rfl := k31_open hK
  exact ⟨ad, e, hc 0 _ rfl, by rw [← add_field _ _ 1 (by omega)]; exact hc 1 _ rfl, by rw [← add_field _ _ 2 (by omega)]; exact hc 2 _ rfl, by rw [← add_field _ _ 3 (by omega)]; exact hc 3 _ rfl, by rw [← add_field _ _ 4 (by omega)]; exact hc 4 _ rfl, by rw [← add_field _ _ 5 (by omega)]; exact hc 5 _ rfl, by rw [← add_field _ _ 6 (by omega)]; exact hc 6 _ rfl, by rw [← add_field _ _ 7 (by omega)]; exact hc 7 _ rfl, by rw [← add_field _ _ 8 (by omega)]; exact hc 8 _ rfl, by rw [← add_field _ _ 9 (by omega)]; exact hc 9 _ rfl, by rw [← add_field _ _ 10 (by omega)]; exact hc 10 _ rfl, by rw [← add_field _ _ 11 (by omega)]; exact hc 11 _ rfl⟩

/-! #### struct type 23 -/
structure S23 where
  f0 : Int
  f1 : Int
def z23 : S23 := ⟨(0 : Int), (0 : Int)⟩
def k23 : Kd S23 := Kd.iso (Kd.pair (Kd.int .i64) (Kd.int .i64)) (fun x : S23 => (x.f0, x.f1))
theorem k23_open {w : World} {x : S23} {cs : List Value} (h : k23.K w x cs) : cs = [.int .i64 x.f0, .int .i64 x.f1] := by
  obtain ⟨_, _, rfl, rfl, rfl⟩ := h
  exact rfl
theorem k23_openM {w : World} {base : Nat} {ok : Nat → Prop} {x : S23} {cs : List Value} (h : k23.M w base ok x cs) : cs = [.int .i64 x.f0, .int .i64 x.f1] := by
  obtain ⟨_, _, rfl, rfl, rfl⟩ := h
  exact rfl
theorem k23_mk (w : World) (x : S23)  : k23.K w x [.int .i64 x.f0, .int .i64 x.f1] := ⟨[.int .i64 x.f0], [.int .i64 x.f1], rfl, rfl, rfl⟩
theorem k23_mkM (w : World) (base : Nat) (ok : Nat → Prop) (x : S23)  : k23.M w base ok x [.int .i64 x.f0, .int .i64 x.f1] := ⟨[.int .i64 x.f0], [.int .i64 x.f1], rfl, rfl, rfl⟩
def rd_T23 (xs : List S23) (i : Int) : S23 := xs.getD i.toNat z23
theorem at_T23 {w : World} {A : Option Addr} {n : Nat} {xs : List S23} (h : Kd.C k23 w A n xs) (i : Int) (h0 : 0 ≤ i) (h1 : i < n) : ∃ ad , A = some ad ∧ w.cell? (ad.add (i.toNat * 2)) = some (.int .i64 (rd_T23 xs i).f0) ∧ w.cell? ⟨(ad.add (i.toNat * 2)).block, (ad.add (i.toNat * 2)).off + 1, none⟩ = some (.int .i64 (rd_T23 xs i).f1) := by
  obtain ⟨ad, c, e, _, hK, hc0⟩ := Kd.C_get h z23 i h0 h1
  have hc : ∀ j u, c[j]? = some u → w.cell? (ad.add (i.toNat * 2 + j)) = some u := hc0
  obtain rfl := k23_open hK
  exact ⟨ad, e, hc 0 _ rfl, by rw [← add_field _ _ 1 (by omega)]; exact hc 1 _ rfl⟩

/-! #### struct type 25 -/
structure S25 where
  f0 : Int
  f1 : Int
  f2 : Int
  f3 : S23
  f4 : S23
  f5 : Int
  f6 : Int
  f7 : Int
  f8 : Bool
  f9 : Int
def z25 : S25 := ⟨(0 : Int), (0 : Int), (0 : Int), z23, z23, (0 : Int), (0 : Int), (0 : Int), false, (0 : Int)⟩
def k25 : Kd S25 := Kd.iso (Kd.pair (Kd.int .i64) (Kd.pair (Kd.int .i64) (Kd.pair (Kd.int .i64) (Kd.pair k23 (Kd.pair k23 (Kd.pair (Kd.int .i64) (Kd.pair (Kd.int .i64) (Kd.pair (Kd.int .i64) (Kd.pair Kd.bool (Kd.int .i64)))))))))) (fun x : S25 => (x.f0, x.f1, x.f2, x.f3, x.f4, x.f5, x.f6, x.f7, x.f8, x.f9))
theorem k25_open {w : World} {x : S25} {cs : List Value} (h : k25.K w x cs) : cs = [.int .i64 x.f0, .int .i64 x.f1, .int .i64 x.f2, .int .i64 x.f3.f0, .int .i64 x.f3.f1, .int .i64 x.f4.f0, .int .i64 x.f4.f1, .int .i64 x.f5, .int .i64 x.f6, .int .i64 x.f7, .bool x.f8, .int .i64 x.f9] := by
  obtain ⟨_, _, rfl, rfl, ⟨_, _, rfl, rfl, ⟨_, _, rfl, rfl, ⟨_, _, rfl, s3, ⟨_, _, rfl, s5, ⟨_, _, rfl, rfl, ⟨_, _, rfl, rfl, ⟨_, _, rfl, rfl, ⟨_, _, rfl, rfl, rfl⟩⟩⟩⟩⟩⟩⟩⟩⟩ := h
  obtain rfl := k23_open s3
  obtain rfl := k23_open s5
  exact rfl
theorem k25_openM {w : World} {base : Nat} {ok : Nat → Prop} {x : S25} {cs : List Value} (h : k25.M w base ok x cs) : cs = [.int .i64 x.f0, .int .i64 x.f1, .int .i64 x.f2, .int .i64 x.f3.f0, .int .i64 x.f3.f1, .int .i64 x.f4.f0, .int .i64 x.f4.f1, .int .i64 x.f5, .int .i64 x.f6, .int .i64 x.f7, .bool x.f8, .int .i64 x.f9] := by
  obtain ⟨_, _, rfl, rfl, ⟨_, _, rfl, rfl, ⟨_, _, rfl, rfl, ⟨_, _, rfl, s3, ⟨_, _, rfl, s5, ⟨_, _, rfl, rfl, ⟨_, _, rfl, rfl, ⟨_, _, rfl, rfl, ⟨_, _, rfl, rfl, rfl⟩⟩⟩⟩⟩⟩⟩⟩⟩ := h
  obtain rfl := k23_openM s3
  obtain rfl := k23_openM s5
  exact rfl
theorem k25_mk (w : World) (x : S25)  : k25.K w x [.int .i64 x.f0, .int .i64 x.f1, .int .i64 x.f2, .int .i64 x.f3.f0, .int .i64 x.f3.f1, .int .i64 x.f4.f0, .int .i64 x.f4.f1, .int .i64 x.f5, .int .i64 x.f6, .int .i64 x.f7, .bool x.f8, .int .i64 x.f9] := ⟨[.int .i64 x.f0], [.int .i64 x.f1, .int .i64 x.f2, .int .i64 x.f3.f0, .int .i64 x.f3.f1, .int .i64 x.f4.f0, .int .i64 x.f4.f1, .int .i64 x.f5, .int .i64 x.f6, .int .i64 x.f7, .bool x.f8, .int .i64 x.f9], rfl, rfl, ⟨[.int .i64 x.f1], [.int .i64 x.f2, .int .i64 x.f3.f0, .int .i64 x.f3.f1, .int .i64 x.f4.f0, .int .i64 x.f4.f1, .int .i64 x.f5, .int .i64 x.f6, .int .i64 x.f7, .bool x.f8, .int .i64 x.f9], rfl, rfl, ⟨[.int .i64 x.f2], [.int .i64 x.f3.f0, .int .i64 x.f3.f1, .int .i64 x.f4.f0, .int .i64 x.f4.f1, .int .i64 x.f5, .int .i64 x.f6, .int .i64 x.f7, .bool x.f8, .int .i64 x.f9], rfl, rfl, ⟨[.int .i64 x.f3.f0, .int .i64 x.f3.f1], [.int .i64 x.f4.f0, .int .i64 x.f4.f1, .int .i64 x.f5, .int .i64 x.f6, .int .i64 x.f7, .bool x.f8, .int .i64 x.f9], rfl, (k23_mk w x.f3 ), ⟨[.int .i64 x.f4.f0, .int .i64 x.f4.f1], [.int .i64 x.f5, .int .i64 x.f6, .int .i64 x.f7, .bool x.f8, .int .i64 x.f9], rfl, (k23_mk w x.f4 ), ⟨[.int .i64 x.f5], [.int .i64 x.f6, .int .i64 x.f7, .bool x.f8, .int .i64 x.f9], rfl, rfl, ⟨[.int .i64 x.f6], [.int .i64 x.f7, .bool x.f8, .int .i64 x.f9], rfl, rfl, ⟨[.int .i64 x.f7], [.bool x.f8, .int .i64 x.f9], rfl, rfl, ⟨[.bool x.f8], [.int .i64 x.f9], rfl, rfl, rfl⟩⟩⟩⟩⟩⟩⟩⟩⟩
theorem k25_mkM (w : World) (base : Nat) (ok : Nat → Prop) (x : S25)  : k25.M w base ok x [.int .i64 x.f0, .int .i64 x.f1, .int .i64 x.f2, .int .i64 x.f3.f0, .int .i64 x.f3.f1, .int .i64 x.f4.f0, .int .i64 x.f4.f1, .int .i64 x.f5, .int .i64 x.f6, .int .i64 x.f7, .bool x.f8, .int .i64 x.f9] := ⟨[.int .i64 x.f0], [.int .i64 x.f1, .int .i64 x.f2, .int .i64 x.f3.f0, .int .i64 x.f3.f1, .int .i64 x.f4.f0, .int .i64 x.f4.f1, .int .i64 x.f5, .int .i64 x.f6, .int .i64 x.f7, .bool x.f8, .int .i64 x.f9], rfl, rfl, ⟨[.int .i64 x.f1], [.int .i64 x.f2, .int .i64 x.f3.f0, .int .i64 x.f3.f1, .int .i64 x.f4.f0, .int .i64 x.f4.f1, .int .i64 x.f5, .int .i64 x.f6, .int .i64 x.f7, .bool x.f8, .int .i64 x.f9], rfl, rfl, ⟨[.int .i64 x.f2], [.int .i64 x.f3.f0, .int .i64 x.f3.f1, .int .i64 x.f4.f0, .int .i64 x.f4.f1, .int .i64 x.f5, .int .i64 x.f6, .int .i64 x.f7, .bool x.f8, .int .i64 x.f9], rfl, rfl, ⟨[.int .i64 x.f3.f0, .int .i64 x.f3.f1], [.int .i64 x.f4.f0, .int .i64 x.f4.f1, .int .i64 x.f5, .int .i64 x.f6, .int .i64 x.f7, .bool x.f8, .int .i64 x.f9], rfl, (k23_mkM w base ok x.f3 ), ⟨[.int .i64 x.f4.f0, .int .i64 x.f4.f1], [.int .i64 x.f5, .int .i64 x.f6, .int .i64 x.f7, .bool x.f8, .int .i64 x.f9], rfl, (k23_mkM w base ok x.f4 ), ⟨[.int .i64 x.f5], [.int .i64 x.f6, .int .i64 x.f7, .bool x.f8, .int .i64 x.f9], rfl, rfl, ⟨[.int .i64 x.f6], [.int .i64 x.f7, .bool x.f8, .int .i64 x.f9], rfl, rfl, ⟨[.int .i64 x.f7], [.bool x.f8, .int .i64 x.f9], rfl, rfl, ⟨[.bool x.f8], [.int .i64 x.f9], rfl, rfl, rfl⟩⟩⟩⟩⟩⟩⟩⟩⟩
def rd_T25 (xs : List S25) (i : Int) : S25 := xs.getD i.toNat z25
theorem at_T25 {w : World} {A : Option Addr} {n : Nat} {xs : List S25} (h : Kd.C k25 w A n xs) (i : Int) (h0 : 0 ≤ i) (h1 : i < n) : ∃ ad , A = some ad ∧ w.cell? (ad.add (i.toNat * 12)) = some (.int .i64 (rd_T25 xs i).f0) ∧ w.cell? ⟨(ad.add (i.toNat * 12)).block, (ad.add (i.toNat * 12)).off + 1, none⟩ = some (.int .i64 (rd_T25 xs i).f1) ∧ w.cell? ⟨(ad.add (i.toNat * 12)).block, (ad.add (i.toNat * 12)).off + 2, none⟩ = some (.int .i64 (rd_T25 xs i).f2) ∧ w.cell? ⟨(ad.add (i.toNat * 12)).block, (ad.add (i.toNat * 12)).off + 3, none⟩ = some (.int .i64 (rd_T25 xs i).f3.f0) ∧ w.cell? ⟨(ad.add (i.toNat * 12)).block, (ad.add (i.toNat * 12)).off + 4, none⟩ = some (.int .i64 (rd_T25 xs i).f3.f1) ∧ w.cell? ⟨(ad.add (i.toNat * 12)).block, (ad.add (i.toNat * 12)).off + 5, none⟩ = some (.int .i64 (rd_T25 xs i).f4.f0) ∧ w.cell? ⟨(ad.add (i.toNat * 12)).block, (ad.add (i.toNat * 12)).off + 6, none⟩ = some (.int .i64 (rd_T25 xs i).f4.f1) ∧ w.cell? ⟨(ad.add (i.toNat * 12)).block, (ad.add (i.toNat * 12)).off + 7, none⟩ = some (.int .i64 (rd_T25 xs i).f5) ∧ w.cell? ⟨(ad.add (i.toNat * 12)).block, (ad.add (i.toNat * 12)).off + 8, none⟩ = some (.int .i64 (rd_T25 xs i).f6) ∧ w.cell? ⟨(ad.add (i.toNat * 12)).block, (ad.add (i.toNat * 12)).off + 9, none⟩ = some (.int .i64 (rd_T25 xs i).f7) ∧ w.cell? ⟨(ad.add (i.toNat * 12)).block, (ad.add (i.toNat * 12)).off + 10, none⟩ = some (.bool (rd_T25 xs i).f8) ∧ w.cell? ⟨(ad.add (i.toNat * 12)).block, (ad.add (i.toNat * 12)).off + 11, none⟩ = some (.int .i64 (rd_T25 xs i).f9) := by
  obtain ⟨ad, c, e, _, hK, hc0⟩ := Kd.C_get h z25 i h0 h1
  have hc : ∀ j u, c[j]? = some u → w.cell? (ad.add (i.toNat * 12 + j)) = some u := hc0
  obtain rfl := k25_open hK
  exact ⟨ad, e, hc 0 _ rfl, by rw [← add_field _ _ 1 (by omega)]; exact hc 1 _ rfl, by rw [← add_field _ _ 2 (by omega)]; exact hc 2 _ rfl, by rw [← add_field _ _ 3 (by omega)]; exact hc 3 _ rfl, by rw [← add_field _ _ 4 (by omega)]; exact hc 4 _ rfl, by rw [← add_field _ _ 5 (by omega)]; exact hc 5 _ rfl, by rw [← add_field _ _ 6 (by omega)]; exact hc 6 _ rfl, by rw [← add_field _ _ 7 (by omega)]; exact hc 7 _ rfl, by rw [← add_field _ _ 8 (by omega)]; exact hc 8 _ rfl, by rw [← add_field _ _ 9 (by omega)]; exact hc 9 _ rfl, by rw [← add_field _ _ 10 (by omega)]; exact hc 10 _ rfl, by rw [← add_field _ _ 11 (by omega)]; exact hc 11 _ rfl⟩

end Go.Proofs.YthniclbmpeklmaaDoor.KEv
namespace Go.Proofs.YthniclbmpeklmaaDoor.KEv
open Go.RowKit Go.Proofs.YthniclbmpeklmaaDoorW.PrintWords Go.Proofs.YthniclbmpeklmaaDoorW.PrintLast Go.Proofs.YthniclbmpeklmaaDoorW.PrintMore
attribute [local go_sem] max2_int min2_int max_two min_two max_three min_three max_four min_four   -- for this text's walks alone
set_option linter.unusedVariables false
set_option linter.unusedSimpArgs false

theorem eqA23 (d : Nat) (w : World) (x0 y0 : Int) (x1 y1 : Int) :
    (Op.equalIn (d + 2) 23 (.agg #[.int .i64 x0, .int .i64 x1]) (.agg #[.int .i64 y0, .int .i64 y1])).run Tryd.prog w = .ok (x0 == y0 && (x1 == y1)) w := by
  refine eqA_of Tryd.underlying23 (by kernel_rfl) ?_
  refine eqf_cons (by rfl) (by go_simp; rfl) (by go_simp; rfl) (by go_simp) ?_
  exact eqf_last (by rfl) (by go_simp; rfl) (by go_simp; rfl) (by go_simp)
theorem eqA25 (d : Nat) (w : World) (x0 y0 : Int) (x1 y1 : Int) (x2 y2 : Int) (x3 y3 : Int) (x4 y4 : Int) (x5 y5 : Int) (x6 y6 : Int) (x7 y7 : Int) (x8 y8 : Int) (x9 y9 : Int) (x10 y10 : Bool) (x11 y11 : Int) :
    (Op.equalIn (d + 3) 25 (.agg #[.int .i64 x0, .int .i64 x1, .int .i64 x2, .int .i64 x3, .int .i64 x4, .int .i64 x5, .int .i64 x6, .int .i64 x7, .int .i64 x8, .int .i64 x9, .bool x10, .int .i64 x11]) (.agg #[.int .i64 y0, .int .i64 y1, .int .i64 y2, .int .i64 y3, .int .i64 y4, .int .i64 y5, .int .i64 y6, .int .i64 y7, .int .i64 y8, .int .i64 y9, .bool y10, .int .i64 y11])).run Tryd.prog w = .ok (x0 == y0 && (x1 == y1 && (x2 == y2 && ((x3 == y3 && (x4 == y4)) && ((x5 == y5 && (x6 == y6)) && (x7 == y7 && (x8 == y8 && (x9 == y9 && (x10 == y10 && (x11 == y11)))))))))) w := by
  refine eqA_of Tryd.underlying25 (by kernel_rfl) ?_
  refine eqf_cons (by rfl) (by go_simp; rfl) (by go_simp; rfl) (by go_simp) ?_
  refine eqf_cons (by rfl) (by go_simp; rfl) (by go_simp; rfl) (by go_simp) ?_
  refine eqf_cons (by rfl) (by go_simp; rfl) (by go_simp; rfl) (by go_simp) ?_
  refine eqf_cons (by rfl) (by go_simp) (by go_simp) (eqA23 (d + 0) w _ _ _ _) ?_
  refine eqf_cons (by rfl) (by go_simp) (by go_simp) (eqA23 (d + 0) w _ _ _ _) ?_
  refine eqf_cons (by rfl) (by go_simp; rfl) (by go_simp; rfl) (by go_simp) ?_
  refine eqf_cons (by rfl) (by go_simp; rfl) (by go_simp; rfl) (by go_simp) ?_
  refine eqf_cons (by rfl) (by go_simp; rfl) (by go_simp; rfl) (by go_simp) ?_
  refine eqf_cons (by rfl) (by go_simp; rfl) (by go_simp; rfl) (by go_simp) ?_
  exact eqf_last (by rfl) (by go_simp; rfl) (by go_simp; rfl) (by go_simp)
end Go.Proofs.YthniclbmpeklmaaDoor.KEv
namespace Go.Proofs.YthniclbmpeklmaaDoor.KEv
open Go.RowKit Go.Proofs.YthniclbmpeklmaaDoorW.PrintWords Go.Proofs.YthniclbmpeklmaaDoorW.PrintLast Go.Proofs.YthniclbmpeklmaaDoorW.PrintMore
attribute [local go_sem] max2_int min2_int max_two min_two max_three min_three max_four min_four   -- for this text's walks alone
set_option linter.unusedVariables false
set_option linter.unusedSimpArgs false

-- NOT PRINTED: function 33 (event_pick)

-- NOT PRINTED: function 19 (event_fields)

-- NOT PRINTED: function 20 (event_counted)

-- NOT PRINTED: function 21 (event_bare)

/-! ### event_Right: function 8, by hand -/
def event_Right.f (a0_0 : Int) (a0_1 : Int) (a0_2 : Int) (a0_3 : Int) (a0_4 : Int) (a0_5 : Int) (a0_6 : Int) (a0_7 : Int) (a0_8 : Int) (a0_9 : Int) (a0_10 : Bool) (a0_11 : Int) : Option Bool := some (Go.Proofs.YthniclbmpeklmaaDoor.Ev.evRight a0_0 a0_1 a0_2 a0_3 a0_4 a0_5 a0_6 a0_7 a0_8 a0_9 a0_10 a0_11)
theorem event_Right.calls (a0_0 : Int) (a0_1 : Int) (a0_2 : Int) (a0_3 : Int) (a0_4 : Int) (a0_5 : Int) (a0_6 : Int) (a0_7 : Int) (a0_8 : Int) (a0_9 : Int) (a0_10 : Bool) (a0_11 : Int) (r1 : Bool) (w : World) (h : event_Right.f a0_0 a0_1 a0_2 a0_3 a0_4 a0_5 a0_6 a0_7 a0_8 a0_9 a0_10 a0_11 = some r1) :
    Calls Tryd.prog 8 #[.agg #[.int .i64 a0_0, .int .i64 a0_1, .int .i64 a0_2, .int .i64 a0_3, .int .i64 a0_4, .int .i64 a0_5, .int .i64 a0_6, .int .i64 a0_7, .int .i64 a0_8, .int .i64 a0_9, .bool a0_10, .int .i64 a0_11]] w fun e w' => e = .returned (.bool r1) ∧ Below w.heap.size w w' := by
  have h1 := Go.Proofs.YthniclbmpeklmaaDoor.Ev.event_right a0_0 a0_1 a0_2 a0_3 a0_4 a0_5 a0_6 a0_7 a0_8 a0_9 a0_10 a0_11 w
  have e := Option.some.inj h
  rw [e] at h1
  exact h1

-- NOT PRINTED: function 38 (strconv_small)

-- NOT PRINTED: function 42 (strconv_log10Pow2)

-- NOT PRINTED: function 43 (bits_Len64)

-- NOT PRINTED: function 44 (strconv_bool2_int)

-- NOT PRINTED: function 39 (strconv_numDigits)

-- NOT PRINTED: function 40 (strconv_formatBase10)

-- NOT PRINTED: function 45 (strconv_isPowerOfTwo)

-- NOT PRINTED: function 47 (bits_TrailingZeros32)

-- NOT PRINTED: function 48 (bits_TrailingZeros64)

-- NOT PRINTED: function 46 (bits_TrailingZeros)

-- NOT PRINTED: function 41 (strconv_formatBits)

-- NOT PRINTED: function 37 (strconv_FormatInt)

-- NOT PRINTED: function 34 (strconv_Itoa_34)

-- NOT PRINTED: function 24 (strconv_Itoa_24)

-- NOT PRINTED: function 25 (event_handle)

/-! ### event_Line: function 11, by hand -/
def event_Line.f (a0_0 : Int) (a0_1 : Int) (a0_2 : Int) (a0_3 : Int) (a0_4 : Int) (a0_5 : Int) (a0_6 : Int) (a0_7 : Int) (a0_8 : Int) (a0_9 : Int) (a0_10 : Bool) (a0_11 : Int) : Option ByteArray := Go.Proofs.YthniclbmpeklmaaDoor.Ev.lineO a0_0 a0_1 a0_2 a0_3 a0_4 a0_5 a0_6 a0_7 a0_8 a0_9 a0_10 a0_11
theorem event_Line.calls (a0_0 : Int) (a0_1 : Int) (a0_2 : Int) (a0_3 : Int) (a0_4 : Int) (a0_5 : Int) (a0_6 : Int) (a0_7 : Int) (a0_8 : Int) (a0_9 : Int) (a0_10 : Bool) (a0_11 : Int) (r1 : ByteArray) (w : World) (htab_ : Go.Proofs.YthniclbmpeklmaaDoor.Ev.Tab w) (h : event_Line.f a0_0 a0_1 a0_2 a0_3 a0_4 a0_5 a0_6 a0_7 a0_8 a0_9 a0_10 a0_11 = some r1) :
    Calls Tryd.prog 11 #[.agg #[.int .i64 a0_0, .int .i64 a0_1, .int .i64 a0_2, .int .i64 a0_3, .int .i64 a0_4, .int .i64 a0_5, .int .i64 a0_6, .int .i64 a0_7, .int .i64 a0_8, .int .i64 a0_9, .bool a0_10, .int .i64 a0_11]] w fun e w' => e = .returned (.string r1) ∧ Below w.heap.size w w' :=
  Go.Proofs.YthniclbmpeklmaaDoor.Ev.line_calls h w htab_

/-! ### knelllaw11_speaks: function 7 -/
def knelllaw11_speaks.f  : Option (Bool) := (event_Line.f 2 1 1 0 0 0 0 5 0 7 false 0).bind fun t101 => (some (t101.toList == ([105, 110, 118, 111, 107, 101, 32, 49, 32, 115, 116, 97, 114, 116, 32, 53, 32, 48, 32, 55] : List UInt8)))
set_option maxHeartbeats 8000000 in
set_option maxRecDepth 100000 in
theorem knelllaw11_speaks.calls  (r : Bool) (w : World) (htab_ : Go.Proofs.YthniclbmpeklmaaDoor.Ev.Tab w) (h : knelllaw11_speaks.f  = some r) :
    Calls Tryd.prog 7 #[] w fun e w' => e = .returned (.bool r) ∧ Below w.heap.size w w' := by
  have HTAB_ := Aside0.mk htab_
  clear htab_
  have hu31 := Tryd.underlying31
  have HB := Aside0.mk (Below.refl w.heap.size w)
  have H : ((event_Line.f 2 1 1 0 0 0 0 5 0 7 false 0).bind fun t101 => (some (t101.toList == ([105, 110, 118, 111, 107, 101, 32, 49, 32, 115, 116, 97, 114, 116, 32, 53, 32, 48, 32, 55] : List UInt8)))) = some r := h
  clear h
  replace H := Option.bind_eq_some_iff.mp H
  obtain ⟨t101, A10, H⟩ := H
  replace H : (some (t101.toList == ([105, 110, 118, 111, 107, 101, 32, 49, 32, 115, 116, 97, 114, 116, 32, 53, 32, 48, 32, 55] : List UInt8))) = some r := H
  have A1 := Aside0.mk A10
  clear A10
  obtain rfl := Option.some.inj H
  go_enter Tryd.func7, Tryd.ntmps7
  go_wp2_with (first | ((with_reducible refine gate_callee (f := 11) rfl ?_); refine goesL_ (some 2) rfl rfl Tryd.func11 (by kernel_rfl) rfl #[.agg #[.int .i64 2, .int .i64 1, .int .i64 1, .int .i64 0, .int .i64 0, .int .i64 0, .int .i64 0, .int .i64 5, .int .i64 0, .int .i64 7, .bool false, .int .i64 0]] rfl (by (try simp only [List.map_toArray, List.map_cons, List.map_nil]); first | done | rfl | (simp only [List.length_drop, List.length_take]; rfl)) ?_; (with_reducible refine (event_Line.calls 2 1 1 0 0 0 0 5 0 7 false 0 t101 _ (Go.Proofs.YthniclbmpeklmaaDoor.Ev.Tab.below HTAB_.out (by repeat (first | (with_reducible first | exact HB.out | apply below_alloc | apply pw_below_drewN | apply below_drew1) | exact HB.out))) A1.out).mono ?_); rintro e w2 ⟨rfl, hb⟩; refine ⟨_, rfl, ?_⟩; have n0_ := Aside0.mk (below_step (by repeat (first | (with_reducible first | exact HB.out | apply below_alloc | apply pw_below_drewN | apply below_drew1) | exact HB.out)) hb); clear HB; have HB := n0_; clear n0_; (try clear hb); (try clear hb2); (try clear hk); (try clear hi)))
  go_ret
  exact ⟨by first | rfl | (simp [errW_none, errW_some] <;> rfl) | (simp [*, errW_none, errW_some] <;> rfl), by repeat (first | (with_reducible first | exact HB.out | apply below_alloc | apply pw_below_drewN | apply below_drew1) | exact HB.out)⟩

/-! ### knelllaw11_Of: function 9 -/
def knelllaw11_Of.f (a0_0 : Int) (a0_1 : Int) (a0_2 : Int) (a0_3 : Int) (a0_4 : Int) (a0_5 : Int) (a0_6 : Int) (a0_7 : Int) (a0_8 : Int) (a0_9 : Int) (a0_10 : Bool) (a0_11 : Int) : Option (Int × Int × Int × Int × Int × Int × Int × Int × Int × Int × Bool × Int) := some (a0_0, a0_1, a0_2, a0_3, a0_4, a0_5, a0_6, a0_7, a0_8, a0_9, a0_10, a0_11)
set_option maxHeartbeats 8000000 in
set_option maxRecDepth 100000 in
theorem knelllaw11_Of.calls (a0_0 : Int) (a0_1 : Int) (a0_2 : Int) (a0_3 : Int) (a0_4 : Int) (a0_5 : Int) (a0_6 : Int) (a0_7 : Int) (a0_8 : Int) (a0_9 : Int) (a0_10 : Bool) (a0_11 : Int) (r1 : Int) (r2 : Int) (r3 : Int) (r4 : Int) (r5 : Int) (r6 : Int) (r7 : Int) (r8 : Int) (r9 : Int) (r10 : Int) (r11 : Bool) (r12 : Int) (w : World) (h : knelllaw11_Of.f a0_0 a0_1 a0_2 a0_3 a0_4 a0_5 a0_6 a0_7 a0_8 a0_9 a0_10 a0_11 = some (r1, r2, r3, r4, r5, r6, r7, r8, r9, r10, r11, r12)) :
    Calls Tryd.prog 9 #[.agg #[.int .i64 a0_0, .int .i64 a0_1, .int .i64 a0_2, .int .i64 a0_3, .int .i64 a0_4, .int .i64 a0_5, .int .i64 a0_6, .int .i64 a0_7, .int .i64 a0_8, .int .i64 a0_9, .bool a0_10, .int .i64 a0_11]] w fun e w' => e = .returned (.agg #[.int .i64 r1, .int .i64 r2, .int .i64 r3, .int .i64 r4, .int .i64 r5, .int .i64 r6, .int .i64 r7, .int .i64 r8, .int .i64 r9, .int .i64 r10, .bool r11, .int .i64 r12]) ∧ Below w.heap.size w w' := by
  have hu25 := Tryd.underlying25
  have hu31 := Tryd.underlying31
  have hu28 := Tryd.underlying28
  have HB := Aside0.mk (Below.refl w.heap.size w)
  have H : (some (a0_0, a0_1, a0_2, a0_3, a0_4, a0_5, a0_6, a0_7, a0_8, a0_9, a0_10, a0_11)) = some (r1, r2, r3, r4, r5, r6, r7, r8, r9, r10, r11, r12) := h
  clear h
  simp only [Option.some.injEq, Prod.mk.injEq] at H
  obtain ⟨rfl, rfl, rfl, rfl, rfl, rfl, rfl, rfl, rfl, rfl, rfl, rfl⟩ := H
  go_enter Tryd.func9, Tryd.ntmps9
  go_wp2_with (first | ((with_reducible refine gate_dst (N := 1) rfl ?_); refine box_event ?hg (N := 1) ?hd (cs := #[.int .i64 a0_0, .int .i64 a0_1, .int .i64 a0_2, .int .i64 a0_3, .int .i64 a0_4, .int .i64 a0_5, .int .i64 a0_6, .int .i64 a0_7, .int .i64 a0_8, .int .i64 a0_9, .bool a0_10, .int .i64 a0_11]) (t := 25) ?hr ?_; (case hd => rfl); (case hg => rfl); (case hr => first | (go_simp; done) | (go_simp; rfl)); intro gb102 hg w2 hbox hb; have n0_ := Aside0.mk (below_step (by repeat (first | (with_reducible first | exact HB.out | apply below_alloc | apply pw_below_drewN | apply below_drew1) | exact HB.out)) hb); have n1_ := Aside0.mk (hbox); have n2_ := Aside0.mk ((by rw [hg]; exact (below_size (by repeat (first | (with_reducible first | exact HB.out | apply below_alloc | apply pw_below_drewN | apply below_drew1) | exact HB.out))) : w.heap.size ≤ gb102)); have n3_ := Aside0.mk ((by rw [hg]; exact (below_size (by repeat (first | (with_reducible first | exact HB.out | apply below_alloc | apply pw_below_drewN | apply below_drew1) | exact HB.out))) : w.heap.size ≤ gb102)); clear HB; have HB := n0_; have BK102 := n1_; have GW102 := n2_; have GE102 := n3_; clear n0_ n1_ n2_ n3_; clear hb hbox hg) | ((with_reducible refine gate_dst (N := 2) rfl ?_); refine box_event ?hg (N := 2) ?hd (cs := #[.int .i64 0, .int .i64 0, .int .i64 0, .int .i64 0, .int .i64 0, .int .i64 0, .int .i64 0, .int .i64 0, .int .i64 0, .int .i64 0, .bool false, .int .i64 0]) (t := 31) ?hr ?_; (case hd => rfl); (case hg => rfl); (case hr => first | (go_simp; done) | (go_simp; rfl)); intro gb103 hg w3 hbox hb; have n0_ := Aside0.mk (blk_below (g := gb102) (o := .cells #[.int .i64 a0_0, .int .i64 a0_1, .int .i64 a0_2, .int .i64 a0_3, .int .i64 a0_4, .int .i64 a0_5, .int .i64 a0_6, .int .i64 a0_7, .int .i64 a0_8, .int .i64 a0_9, .bool a0_10, .int .i64 a0_11] 25 (0, 0)) (by (with_reducible repeat (first | refine blk_drewN ?_ _ | refine blk_drew ?_ | refine blk_alloc ?_ _)); exact BK102.out) hb); have n1_ := Aside0.mk (below_step (by repeat (first | (with_reducible first | exact HB.out | apply below_alloc | apply pw_below_drewN | apply below_drew1 | refine below_set ?_ GE102.out) | exact HB.out)) hb); have n2_ := Aside0.mk (hbox); have n3_ := Aside0.mk ((by rw [hg]; exact (below_size (by repeat (first | (with_reducible first | exact HB.out | apply below_alloc | apply pw_below_drewN | apply below_drew1 | refine below_set ?_ GE102.out) | exact HB.out))) : w.heap.size ≤ gb103)); have n4_ := Aside0.mk ((by rw [hg]; exact (below_size (by repeat (first | (with_reducible first | exact HB.out | apply below_alloc | apply pw_below_drewN | apply below_drew1 | refine below_set ?_ GE102.out) | exact HB.out))) : w.heap.size ≤ gb103)); have n5_ := Aside0.mk ((by rw [hg]; exact Nat.ne_of_lt (blk_lt (g := gb102) (o := .cells #[.int .i64 a0_0, .int .i64 a0_1, .int .i64 a0_2, .int .i64 a0_3, .int .i64 a0_4, .int .i64 a0_5, .int .i64 a0_6, .int .i64 a0_7, .int .i64 a0_8, .int .i64 a0_9, .bool a0_10, .int .i64 a0_11] 25 (0, 0)) (by (with_reducible repeat (first | refine blk_drewN ?_ _ | refine blk_drew ?_ | refine blk_alloc ?_ _)); exact BK102.out)) : gb102 ≠ gb103)); have n6_ := Aside0.mk ((by rw [hg]; exact Nat.ne_of_gt (blk_lt (g := gb102) (o := .cells #[.int .i64 a0_0, .int .i64 a0_1, .int .i64 a0_2, .int .i64 a0_3, .int .i64 a0_4, .int .i64 a0_5, .int .i64 a0_6, .int .i64 a0_7, .int .i64 a0_8, .int .i64 a0_9, .bool a0_10, .int .i64 a0_11] 25 (0, 0)) (by (with_reducible repeat (first | refine blk_drewN ?_ _ | refine blk_drew ?_ | refine blk_alloc ?_ _)); exact BK102.out)) : gb103 ≠ gb102)); clear BK102; clear HB; have BK102 := n0_; have HB := n1_; have BK103 := n2_; have GW103 := n3_; have GE103 := n4_; have NB102_103 := n5_; have NB103_102 := n6_; clear n0_ n1_ n2_ n3_ n4_ n5_ n6_; clear hb hbox hg; have hnb4 := NB102_103.out; have hnc4 := NB103_102.out; have hcz5_0 : w3.cell? ⟨gb102, 0, none⟩ = some (.int .i64 a0_0) := (blk_cell BK102.out 0).trans rfl; have hcz5_1 : w3.cell? ⟨gb102, 1, none⟩ = some (.int .i64 a0_1) := (blk_cell BK102.out 1).trans rfl; have hcz5_2 : w3.cell? ⟨gb102, 2, none⟩ = some (.int .i64 a0_2) := (blk_cell BK102.out 2).trans rfl; have hcz5_3 : w3.cell? ⟨gb102, 3, none⟩ = some (.int .i64 a0_3) := (blk_cell BK102.out 3).trans rfl; have hcz5_4 : w3.cell? ⟨gb102, 4, none⟩ = some (.int .i64 a0_4) := (blk_cell BK102.out 4).trans rfl; have hcz5_5 : w3.cell? ⟨gb102, 5, none⟩ = some (.int .i64 a0_5) := (blk_cell BK102.out 5).trans rfl; have hcz5_6 : w3.cell? ⟨gb102, 6, none⟩ = some (.int .i64 a0_6) := (blk_cell BK102.out 6).trans rfl; have hcz5_7 : w3.cell? ⟨gb102, 7, none⟩ = some (.int .i64 a0_7) := (blk_cell BK102.out 7).trans rfl; have hcz5_8 : w3.cell? ⟨gb102, 8, none⟩ = some (.int .i64 a0_8) := (blk_cell BK102.out 8).trans rfl; have hcz5_9 : w3.cell? ⟨gb102, 9, none⟩ = some (.int .i64 a0_9) := (blk_cell BK102.out 9).trans rfl; have hcz5_10 : w3.cell? ⟨gb102, 10, none⟩ = some (.bool a0_10) := (blk_cell BK102.out 10).trans rfl; have hcz5_11 : w3.cell? ⟨gb102, 11, none⟩ = some (.int .i64 a0_11) := (blk_cell BK102.out 11).trans rfl; have hfz5_0 := blk_frozen BK102.out 0; have hfz5_1 := blk_frozen BK102.out 1; have hfz5_2 := blk_frozen BK102.out 2; have hfz5_3 := blk_frozen BK102.out 3; have hfz5_4 := blk_frozen BK102.out 4; have hfz5_5 := blk_frozen BK102.out 5; have hfz5_6 := blk_frozen BK102.out 6; have hfz5_7 := blk_frozen BK102.out 7; have hfz5_8 := blk_frozen BK102.out 8; have hfz5_9 := blk_frozen BK102.out 9; have hfz5_10 := blk_frozen BK102.out 10; have hfz5_11 := blk_frozen BK102.out 11; have hcz6_0 : w3.cell? ⟨gb103, 0, none⟩ = some (.int .i64 0) := (blk_cell BK103.out 0).trans rfl; have hcz6_1 : w3.cell? ⟨gb103, 1, none⟩ = some (.int .i64 0) := (blk_cell BK103.out 1).trans rfl; have hcz6_2 : w3.cell? ⟨gb103, 2, none⟩ = some (.int .i64 0) := (blk_cell BK103.out 2).trans rfl; have hcz6_3 : w3.cell? ⟨gb103, 3, none⟩ = some (.int .i64 0) := (blk_cell BK103.out 3).trans rfl; have hcz6_4 : w3.cell? ⟨gb103, 4, none⟩ = some (.int .i64 0) := (blk_cell BK103.out 4).trans rfl; have hcz6_5 : w3.cell? ⟨gb103, 5, none⟩ = some (.int .i64 0) := (blk_cell BK103.out 5).trans rfl; have hcz6_6 : w3.cell? ⟨gb103, 6, none⟩ = some (.int .i64 0) := (blk_cell BK103.out 6).trans rfl; have hcz6_7 : w3.cell? ⟨gb103, 7, none⟩ = some (.int .i64 0) := (blk_cell BK103.out 7).trans rfl; have hcz6_8 : w3.cell? ⟨gb103, 8, none⟩ = some (.int .i64 0) := (blk_cell BK103.out 8).trans rfl; have hcz6_9 : w3.cell? ⟨gb103, 9, none⟩ = some (.int .i64 0) := (blk_cell BK103.out 9).trans rfl; have hcz6_10 : w3.cell? ⟨gb103, 10, none⟩ = some (.bool false) := (blk_cell BK103.out 10).trans rfl; have hcz6_11 : w3.cell? ⟨gb103, 11, none⟩ = some (.int .i64 0) := (blk_cell BK103.out 11).trans rfl; have hfz6_0 := blk_frozen BK103.out 0; have hfz6_1 := blk_frozen BK103.out 1; have hfz6_2 := blk_frozen BK103.out 2; have hfz6_3 := blk_frozen BK103.out 3; have hfz6_4 := blk_frozen BK103.out 4; have hfz6_5 := blk_frozen BK103.out 5; have hfz6_6 := blk_frozen BK103.out 6; have hfz6_7 := blk_frozen BK103.out 7; have hfz6_8 := blk_frozen BK103.out 8; have hfz6_9 := blk_frozen BK103.out 9; have hfz6_10 := blk_frozen BK103.out 10; have hfz6_11 := blk_frozen BK103.out 11))
  refine bodyPost_ret (results_cell_row rfl _ _ gb103 31 #[.int .i64 a0_0, .int .i64 a0_1, .int .i64 a0_2, .int .i64 a0_3, .int .i64 a0_4, .int .i64 a0_5, .int .i64 a0_6, .int .i64 a0_7, .int .i64 a0_8, .int .i64 a0_9, .bool a0_10, .int .i64 a0_11] (0, 0) _ rfl (by (with_reducible repeat (first | refine blk_drewN ?_ _ | refine blk_drew ?_ | refine blk_alloc ?_ _)); refine blk_put (cs := #[.int .i64 a0_0, .int .i64 a0_1, .int .i64 a0_2, .int .i64 a0_3, .int .i64 a0_4, .int .i64 a0_5, .int .i64 a0_6, .int .i64 a0_7, .int .i64 a0_8, .int .i64 a0_9, .bool a0_10, .int .i64 0]) ?_ 11 _ rfl; (with_reducible repeat (first | refine blk_drewN ?_ _ | refine blk_drew ?_ | refine blk_alloc ?_ _)); refine blk_put (cs := #[.int .i64 a0_0, .int .i64 a0_1, .int .i64 a0_2, .int .i64 a0_3, .int .i64 a0_4, .int .i64 a0_5, .int .i64 a0_6, .int .i64 a0_7, .int .i64 a0_8, .int .i64 a0_9, .bool false, .int .i64 0]) ?_ 10 _ rfl; (with_reducible repeat (first | refine blk_drewN ?_ _ | refine blk_drew ?_ | refine blk_alloc ?_ _)); refine blk_put (cs := #[.int .i64 a0_0, .int .i64 a0_1, .int .i64 a0_2, .int .i64 a0_3, .int .i64 a0_4, .int .i64 a0_5, .int .i64 a0_6, .int .i64 a0_7, .int .i64 a0_8, .int .i64 0, .bool false, .int .i64 0]) ?_ 9 _ rfl; (with_reducible repeat (first | refine blk_drewN ?_ _ | refine blk_drew ?_ | refine blk_alloc ?_ _)); refine blk_put (cs := #[.int .i64 a0_0, .int .i64 a0_1, .int .i64 a0_2, .int .i64 a0_3, .int .i64 a0_4, .int .i64 a0_5, .int .i64 a0_6, .int .i64 a0_7, .int .i64 0, .int .i64 0, .bool false, .int .i64 0]) ?_ 8 _ rfl; (with_reducible repeat (first | refine blk_drewN ?_ _ | refine blk_drew ?_ | refine blk_alloc ?_ _)); refine blk_put (cs := #[.int .i64 a0_0, .int .i64 a0_1, .int .i64 a0_2, .int .i64 a0_3, .int .i64 a0_4, .int .i64 a0_5, .int .i64 a0_6, .int .i64 0, .int .i64 0, .int .i64 0, .bool false, .int .i64 0]) ?_ 7 _ rfl; (with_reducible repeat (first | refine blk_drewN ?_ _ | refine blk_drew ?_ | refine blk_alloc ?_ _)); refine blk_put (cs := #[.int .i64 a0_0, .int .i64 a0_1, .int .i64 a0_2, .int .i64 a0_3, .int .i64 a0_4, .int .i64 a0_5, .int .i64 0, .int .i64 0, .int .i64 0, .int .i64 0, .bool false, .int .i64 0]) ?_ 6 _ rfl; (with_reducible repeat (first | refine blk_drewN ?_ _ | refine blk_drew ?_ | refine blk_alloc ?_ _)); refine blk_put (cs := #[.int .i64 a0_0, .int .i64 a0_1, .int .i64 a0_2, .int .i64 a0_3, .int .i64 a0_4, .int .i64 0, .int .i64 0, .int .i64 0, .int .i64 0, .int .i64 0, .bool false, .int .i64 0]) ?_ 5 _ rfl; (with_reducible repeat (first | refine blk_drewN ?_ _ | refine blk_drew ?_ | refine blk_alloc ?_ _)); refine blk_put (cs := #[.int .i64 a0_0, .int .i64 a0_1, .int .i64 a0_2, .int .i64 a0_3, .int .i64 0, .int .i64 0, .int .i64 0, .int .i64 0, .int .i64 0, .int .i64 0, .bool false, .int .i64 0]) ?_ 4 _ rfl; (with_reducible repeat (first | refine blk_drewN ?_ _ | refine blk_drew ?_ | refine blk_alloc ?_ _)); refine blk_put (cs := #[.int .i64 a0_0, .int .i64 a0_1, .int .i64 a0_2, .int .i64 0, .int .i64 0, .int .i64 0, .int .i64 0, .int .i64 0, .int .i64 0, .int .i64 0, .bool false, .int .i64 0]) ?_ 3 _ rfl; (with_reducible repeat (first | refine blk_drewN ?_ _ | refine blk_drew ?_ | refine blk_alloc ?_ _)); refine blk_put (cs := #[.int .i64 a0_0, .int .i64 a0_1, .int .i64 0, .int .i64 0, .int .i64 0, .int .i64 0, .int .i64 0, .int .i64 0, .int .i64 0, .int .i64 0, .bool false, .int .i64 0]) ?_ 2 _ rfl; (with_reducible repeat (first | refine blk_drewN ?_ _ | refine blk_drew ?_ | refine blk_alloc ?_ _)); refine blk_put (cs := #[.int .i64 a0_0, .int .i64 0, .int .i64 0, .int .i64 0, .int .i64 0, .int .i64 0, .int .i64 0, .int .i64 0, .int .i64 0, .int .i64 0, .bool false, .int .i64 0]) ?_ 1 _ rfl; (with_reducible repeat (first | refine blk_drewN ?_ _ | refine blk_drew ?_ | refine blk_alloc ?_ _)); refine blk_put (cs := #[.int .i64 0, .int .i64 0, .int .i64 0, .int .i64 0, .int .i64 0, .int .i64 0, .int .i64 0, .int .i64 0, .int .i64 0, .int .i64 0, .bool false, .int .i64 0]) ?_ 0 _ rfl; (with_reducible repeat (first | refine blk_drewN ?_ _ | refine blk_drew ?_ | refine blk_alloc ?_ _)); exact BK103.out) Tryd.underlying31 rfl (by kernel_rfl)) rfl ?_
  exact ⟨by first | rfl | (simp [errW_none, errW_some] <;> rfl) | (simp [*, errW_none, errW_some] <;> rfl), by repeat (first | (with_reducible first | exact HB.out | apply below_alloc | apply pw_below_drewN | apply below_drew1 | refine below_set ?_ GE102.out | refine below_set ?_ GE103.out) | exact HB.out)⟩

-- NOT PRINTED: function 22 (knellref11_kind)

-- NOT PRINTED: function 35 (knellref11_in)

-- NOT PRINTED: function 27 (knellref11_Has)

-- NOT PRINTED: function 23 (knellref11_empty)

/-! ### knellref11_Right: function 10, by hand -/
def knellref11_Right.f (a0_0 : Int) (a0_1 : Int) (a0_2 : Int) (a0_3 : Int) (a0_4 : Int) (a0_5 : Int) (a0_6 : Int) (a0_7 : Int) (a0_8 : Int) (a0_9 : Int) (a0_10 : Bool) (a0_11 : Int) : Option Bool := some (Go.Proofs.YthniclbmpeklmaaDoor.Ev.evRight a0_0 a0_1 a0_2 a0_3 a0_4 a0_5 a0_6 a0_7 a0_8 a0_9 a0_10 a0_11)
theorem knellref11_Right.calls (a0_0 : Int) (a0_1 : Int) (a0_2 : Int) (a0_3 : Int) (a0_4 : Int) (a0_5 : Int) (a0_6 : Int) (a0_7 : Int) (a0_8 : Int) (a0_9 : Int) (a0_10 : Bool) (a0_11 : Int) (r1 : Bool) (w : World) (h : knellref11_Right.f a0_0 a0_1 a0_2 a0_3 a0_4 a0_5 a0_6 a0_7 a0_8 a0_9 a0_10 a0_11 = some r1) :
    Calls Tryd.prog 10 #[.agg #[.int .i64 a0_0, .int .i64 a0_1, .int .i64 a0_2, .int .i64 a0_3, .int .i64 a0_4, .int .i64 a0_5, .int .i64 a0_6, .int .i64 a0_7, .int .i64 a0_8, .int .i64 a0_9, .bool a0_10, .int .i64 a0_11]] w fun e w' => e = .returned (.bool r1) ∧ Below w.heap.size w w' := by
  have h1 := Go.Proofs.YthniclbmpeklmaaDoor.Ev.right_any a0_0 a0_1 a0_2 a0_3 a0_4 a0_5 a0_6 a0_7 a0_8 a0_9 a0_10 a0_11 w
  have e := Option.some.inj h
  rw [e] at h1
  exact h1

-- NOT PRINTED: function 26 (knellref11_Decimal)

-- NOT PRINTED: function 28 (knellref11_handle)

/-! ### knellref11_Line: function 12, by hand -/
def knellref11_Line.f (a0_0 : Int) (a0_1 : Int) (a0_2 : Int) (a0_3 : Int) (a0_4 : Int) (a0_5 : Int) (a0_6 : Int) (a0_7 : Int) (a0_8 : Int) (a0_9 : Int) (a0_10 : Bool) (a0_11 : Int) : Option ByteArray := Go.Proofs.YthniclbmpeklmaaDoor.Ev.lineO a0_0 a0_1 a0_2 a0_3 a0_4 a0_5 a0_6 a0_7 a0_8 a0_9 a0_10 a0_11
theorem knellref11_Line.calls (a0_0 : Int) (a0_1 : Int) (a0_2 : Int) (a0_3 : Int) (a0_4 : Int) (a0_5 : Int) (a0_6 : Int) (a0_7 : Int) (a0_8 : Int) (a0_9 : Int) (a0_10 : Bool) (a0_11 : Int) (r1 : ByteArray) (w : World) (h : knellref11_Line.f a0_0 a0_1 a0_2 a0_3 a0_4 a0_5 a0_6 a0_7 a0_8 a0_9 a0_10 a0_11 = some r1) :
    Calls Tryd.prog 12 #[.agg #[.int .i64 a0_0, .int .i64 a0_1, .int .i64 a0_2, .int .i64 a0_3, .int .i64 a0_4, .int .i64 a0_5, .int .i64 a0_6, .int .i64 a0_7, .int .i64 a0_8, .int .i64 a0_9, .bool a0_10, .int .i64 a0_11]] w fun e w' => e = .returned (.string r1) ∧ Below w.heap.size w w' :=
  Go.Proofs.YthniclbmpeklmaaDoor.Ev.ref_line_calls h w

/-! ### knelllaw11_EventTells: function 3 -/
def knelllaw11_EventTells.f (a0_0 : Int) (a0_1 : Int) (a0_2 : Int) (a0_3 : Int) (a0_4 : Int) (a0_5 : Int) (a0_6 : Int) (a0_7 : Int) (a0_8 : Int) (a0_9 : Int) (a0_10 : Bool) (a0_11 : Int) : Option (Bool) := (knelllaw11_speaks.f).bind fun t105 => (if t105 = true then ((knelllaw11_Of.f a0_0 a0_1 a0_2 a0_3 a0_4 a0_5 a0_6 a0_7 a0_8 a0_9 a0_10 a0_11).bind fun bt106 => ((event_Right.f bt106.1 bt106.2.1 bt106.2.2.1 bt106.2.2.2.1 bt106.2.2.2.2.1 bt106.2.2.2.2.2.1 bt106.2.2.2.2.2.2.1 bt106.2.2.2.2.2.2.2.1 bt106.2.2.2.2.2.2.2.2.1 bt106.2.2.2.2.2.2.2.2.2.1 bt106.2.2.2.2.2.2.2.2.2.2.1 bt106.2.2.2.2.2.2.2.2.2.2.2).bind fun t118 => ((knellref11_Right.f a0_0 a0_1 a0_2 a0_3 a0_4 a0_5 a0_6 a0_7 a0_8 a0_9 a0_10 a0_11).bind fun t119 => (if (t118 == t119) = true then ((knelllaw11_Of.f a0_0 a0_1 a0_2 a0_3 a0_4 a0_5 a0_6 a0_7 a0_8 a0_9 a0_10 a0_11).bind fun bt120 => ((event_Line.f bt120.1 bt120.2.1 bt120.2.2.1 bt120.2.2.2.1 bt120.2.2.2.2.1 bt120.2.2.2.2.2.1 bt120.2.2.2.2.2.2.1 bt120.2.2.2.2.2.2.2.1 bt120.2.2.2.2.2.2.2.2.1 bt120.2.2.2.2.2.2.2.2.2.1 bt120.2.2.2.2.2.2.2.2.2.2.1 bt120.2.2.2.2.2.2.2.2.2.2.2).bind fun t132 => ((knellref11_Line.f a0_0 a0_1 a0_2 a0_3 a0_4 a0_5 a0_6 a0_7 a0_8 a0_9 a0_10 a0_11).bind fun t133 => (some (t132.toList == t133.toList))))) else (some false))))) else (some false))
def knelllaw11_EventTells.T1 : Bool × List (List Nat × List Nat) := (true, [([], []), ([0, 0], [0]), ([1], [1]), ([2, 1, 1], [1, 2]), ([3, 3, 1], [1, 3]), ([1], [1]), ([5, 4, 1], [1, 5]), ([4, 6, 1], [1, 4, 6]), ([1, 7], [1, 7]), ([8, 6], [8]), ([9], [9]), ([10, 9, 9], [9, 10]), ([11, 11, 9], [9, 11]), ([9], [9]), ([13, 12, 9], [9, 13]), ([12, 14, 9], [9, 12, 14]), ([9, 15], [9, 15]), ([16, 14, 0, 1, 2, 3, 4, 5, 6, 7, 8, 9, 10, 11, 12, 13, 14, 15, 16], [16])])
def knelllaw11_EventTells.B1 : List Nat := [0, 1, 3, 7, 15, 3, 63, 127, 255, 511, 1023, 2047, 4095, 1023, 16383, 32767, 65535, 131071]
theorem knelllaw11_EventTells.tab1 : rtab .any (opsOf Tryd.f3 1) = knelllaw11_EventTells.T1 := by kernel_rfl
theorem knelllaw11_EventTells.bits1 : waitsOk knelllaw11_EventTells.T1.2 knelllaw11_EventTells.B1 = true := by kernel_rfl
set_option maxHeartbeats 8000000 in
set_option maxRecDepth 100000 in
theorem knelllaw11_EventTells.calls (a0_0 : Int) (a0_1 : Int) (a0_2 : Int) (a0_3 : Int) (a0_4 : Int) (a0_5 : Int) (a0_6 : Int) (a0_7 : Int) (a0_8 : Int) (a0_9 : Int) (a0_10 : Bool) (a0_11 : Int) (r : Bool) (w : World) (htab_ : Go.Proofs.YthniclbmpeklmaaDoor.Ev.Tab w) (h : knelllaw11_EventTells.f a0_0 a0_1 a0_2 a0_3 a0_4 a0_5 a0_6 a0_7 a0_8 a0_9 a0_10 a0_11 = some r) :
    Calls Tryd.prog 3 #[.agg #[.int .i64 a0_0, .int .i64 a0_1, .int .i64 a0_2, .int .i64 a0_3, .int .i64 a0_4, .int .i64 a0_5, .int .i64 a0_6, .int .i64 a0_7, .int .i64 a0_8, .int .i64 a0_9, .bool a0_10, .int .i64 a0_11]] w fun e w' => e = .returned (.bool r) ∧ Below w.heap.size w w' := by
  have HTAB_ := Aside0.mk htab_
  clear htab_
  have hu25 := Tryd.underlying25
  have HB := Aside0.mk (Below.refl w.heap.size w)
  have H : ((knelllaw11_speaks.f).bind fun t105 => (if t105 = true then ((knelllaw11_Of.f a0_0 a0_1 a0_2 a0_3 a0_4 a0_5 a0_6 a0_7 a0_8 a0_9 a0_10 a0_11).bind fun bt106 => ((event_Right.f bt106.1 bt106.2.1 bt106.2.2.1 bt106.2.2.2.1 bt106.2.2.2.2.1 bt106.2.2.2.2.2.1 bt106.2.2.2.2.2.2.1 bt106.2.2.2.2.2.2.2.1 bt106.2.2.2.2.2.2.2.2.1 bt106.2.2.2.2.2.2.2.2.2.1 bt106.2.2.2.2.2.2.2.2.2.2.1 bt106.2.2.2.2.2.2.2.2.2.2.2).bind fun t118 => ((knellref11_Right.f a0_0 a0_1 a0_2 a0_3 a0_4 a0_5 a0_6 a0_7 a0_8 a0_9 a0_10 a0_11).bind fun t119 => (if (t118 == t119) = true then ((knelllaw11_Of.f a0_0 a0_1 a0_2 a0_3 a0_4 a0_5 a0_6 a0_7 a0_8 a0_9 a0_10 a0_11).bind fun bt120 => ((event_Line.f bt120.1 bt120.2.1 bt120.2.2.1 bt120.2.2.2.1 bt120.2.2.2.2.1 bt120.2.2.2.2.2.1 bt120.2.2.2.2.2.2.1 bt120.2.2.2.2.2.2.2.1 bt120.2.2.2.2.2.2.2.2.1 bt120.2.2.2.2.2.2.2.2.2.1 bt120.2.2.2.2.2.2.2.2.2.2.1 bt120.2.2.2.2.2.2.2.2.2.2.2).bind fun t132 => ((knellref11_Line.f a0_0 a0_1 a0_2 a0_3 a0_4 a0_5 a0_6 a0_7 a0_8 a0_9 a0_10 a0_11).bind fun t133 => (some (t132.toList == t133.toList))))) else (some false))))) else (some false))) = some r := h
  clear h
  replace H := Option.bind_eq_some_iff.mp H
  obtain ⟨t105, A20, H⟩ := H
  replace H : (if t105 = true then ((knelllaw11_Of.f a0_0 a0_1 a0_2 a0_3 a0_4 a0_5 a0_6 a0_7 a0_8 a0_9 a0_10 a0_11).bind fun bt106 => ((event_Right.f bt106.1 bt106.2.1 bt106.2.2.1 bt106.2.2.2.1 bt106.2.2.2.2.1 bt106.2.2.2.2.2.1 bt106.2.2.2.2.2.2.1 bt106.2.2.2.2.2.2.2.1 bt106.2.2.2.2.2.2.2.2.1 bt106.2.2.2.2.2.2.2.2.2.1 bt106.2.2.2.2.2.2.2.2.2.2.1 bt106.2.2.2.2.2.2.2.2.2.2.2).bind fun t118 => ((knellref11_Right.f a0_0 a0_1 a0_2 a0_3 a0_4 a0_5 a0_6 a0_7 a0_8 a0_9 a0_10 a0_11).bind fun t119 => (if (t118 == t119) = true then ((knelllaw11_Of.f a0_0 a0_1 a0_2 a0_3 a0_4 a0_5 a0_6 a0_7 a0_8 a0_9 a0_10 a0_11).bind fun bt120 => ((event_Line.f bt120.1 bt120.2.1 bt120.2.2.1 bt120.2.2.2.1 bt120.2.2.2.2.1 bt120.2.2.2.2.2.1 bt120.2.2.2.2.2.2.1 bt120.2.2.2.2.2.2.2.1 bt120.2.2.2.2.2.2.2.2.1 bt120.2.2.2.2.2.2.2.2.2.1 bt120.2.2.2.2.2.2.2.2.2.2.1 bt120.2.2.2.2.2.2.2.2.2.2.2).bind fun t132 => ((knellref11_Line.f a0_0 a0_1 a0_2 a0_3 a0_4 a0_5 a0_6 a0_7 a0_8 a0_9 a0_10 a0_11).bind fun t133 => (some (t132.toList == t133.toList))))) else (some false))))) else (some false)) = some r := H
  have A2 := Aside0.mk A20
  clear A20
  by_cases c3 : t105 = true
  · subst c3
    have H1 : ((knelllaw11_Of.f a0_0 a0_1 a0_2 a0_3 a0_4 a0_5 a0_6 a0_7 a0_8 a0_9 a0_10 a0_11).bind fun bt106 => ((event_Right.f bt106.1 bt106.2.1 bt106.2.2.1 bt106.2.2.2.1 bt106.2.2.2.2.1 bt106.2.2.2.2.2.1 bt106.2.2.2.2.2.2.1 bt106.2.2.2.2.2.2.2.1 bt106.2.2.2.2.2.2.2.2.1 bt106.2.2.2.2.2.2.2.2.2.1 bt106.2.2.2.2.2.2.2.2.2.2.1 bt106.2.2.2.2.2.2.2.2.2.2.2).bind fun t118 => ((knellref11_Right.f a0_0 a0_1 a0_2 a0_3 a0_4 a0_5 a0_6 a0_7 a0_8 a0_9 a0_10 a0_11).bind fun t119 => (if (t118 == t119) = true then ((knelllaw11_Of.f a0_0 a0_1 a0_2 a0_3 a0_4 a0_5 a0_6 a0_7 a0_8 a0_9 a0_10 a0_11).bind fun bt120 => ((event_Line.f bt120.1 bt120.2.1 bt120.2.2.1 bt120.2.2.2.1 bt120.2.2.2.2.1 bt120.2.2.2.2.2.1 bt120.2.2.2.2.2.2.1 bt120.2.2.2.2.2.2.2.1 bt120.2.2.2.2.2.2.2.2.1 bt120.2.2.2.2.2.2.2.2.2.1 bt120.2.2.2.2.2.2.2.2.2.2.1 bt120.2.2.2.2.2.2.2.2.2.2.2).bind fun t132 => ((knellref11_Line.f a0_0 a0_1 a0_2 a0_3 a0_4 a0_5 a0_6 a0_7 a0_8 a0_9 a0_10 a0_11).bind fun t133 => (some (t132.toList == t133.toList))))) else (some false))))) = some r := by rw [if_pos rfl] at H; exact H
    clear H
    have H := H1
    clear H1
    replace H := Option.bind_eq_some_iff.mp H
    obtain ⟨⟨t106, t107, t108, t109, t110, t111, t112, t113, t114, t115, t116, t117⟩, A40, H⟩ := H
    replace H : ((event_Right.f t106 t107 t108 t109 t110 t111 t112 t113 t114 t115 t116 t117).bind fun t118 => ((knellref11_Right.f a0_0 a0_1 a0_2 a0_3 a0_4 a0_5 a0_6 a0_7 a0_8 a0_9 a0_10 a0_11).bind fun t119 => (if (t118 == t119) = true then ((knelllaw11_Of.f a0_0 a0_1 a0_2 a0_3 a0_4 a0_5 a0_6 a0_7 a0_8 a0_9 a0_10 a0_11).bind fun bt120 => ((event_Line.f bt120.1 bt120.2.1 bt120.2.2.1 bt120.2.2.2.1 bt120.2.2.2.2.1 bt120.2.2.2.2.2.1 bt120.2.2.2.2.2.2.1 bt120.2.2.2.2.2.2.2.1 bt120.2.2.2.2.2.2.2.2.1 bt120.2.2.2.2.2.2.2.2.2.1 bt120.2.2.2.2.2.2.2.2.2.2.1 bt120.2.2.2.2.2.2.2.2.2.2.2).bind fun t132 => ((knellref11_Line.f a0_0 a0_1 a0_2 a0_3 a0_4 a0_5 a0_6 a0_7 a0_8 a0_9 a0_10 a0_11).bind fun t133 => (some (t132.toList == t133.toList))))) else (some false)))) = some r := H
    have A4 := Aside0.mk A40
    clear A40
    replace H := Option.bind_eq_some_iff.mp H
    obtain ⟨t118, A50, H⟩ := H
    replace H : ((knellref11_Right.f a0_0 a0_1 a0_2 a0_3 a0_4 a0_5 a0_6 a0_7 a0_8 a0_9 a0_10 a0_11).bind fun t119 => (if (t118 == t119) = true then ((knelllaw11_Of.f a0_0 a0_1 a0_2 a0_3 a0_4 a0_5 a0_6 a0_7 a0_8 a0_9 a0_10 a0_11).bind fun bt120 => ((event_Line.f bt120.1 bt120.2.1 bt120.2.2.1 bt120.2.2.2.1 bt120.2.2.2.2.1 bt120.2.2.2.2.2.1 bt120.2.2.2.2.2.2.1 bt120.2.2.2.2.2.2.2.1 bt120.2.2.2.2.2.2.2.2.1 bt120.2.2.2.2.2.2.2.2.2.1 bt120.2.2.2.2.2.2.2.2.2.2.1 bt120.2.2.2.2.2.2.2.2.2.2.2).bind fun t132 => ((knellref11_Line.f a0_0 a0_1 a0_2 a0_3 a0_4 a0_5 a0_6 a0_7 a0_8 a0_9 a0_10 a0_11).bind fun t133 => (some (t132.toList == t133.toList))))) else (some false))) = some r := H
    have A5 := Aside0.mk A50
    clear A50
    replace H := Option.bind_eq_some_iff.mp H
    obtain ⟨t119, A60, H⟩ := H
    replace H : (if (t118 == t119) = true then ((knelllaw11_Of.f a0_0 a0_1 a0_2 a0_3 a0_4 a0_5 a0_6 a0_7 a0_8 a0_9 a0_10 a0_11).bind fun bt120 => ((event_Line.f bt120.1 bt120.2.1 bt120.2.2.1 bt120.2.2.2.1 bt120.2.2.2.2.1 bt120.2.2.2.2.2.1 bt120.2.2.2.2.2.2.1 bt120.2.2.2.2.2.2.2.1 bt120.2.2.2.2.2.2.2.2.1 bt120.2.2.2.2.2.2.2.2.2.1 bt120.2.2.2.2.2.2.2.2.2.2.1 bt120.2.2.2.2.2.2.2.2.2.2.2).bind fun t132 => ((knellref11_Line.f a0_0 a0_1 a0_2 a0_3 a0_4 a0_5 a0_6 a0_7 a0_8 a0_9 a0_10 a0_11).bind fun t133 => (some (t132.toList == t133.toList))))) else (some false)) = some r := H
    have A6 := Aside0.mk A60
    clear A60
    by_cases c7 : (t118 == t119) = true
    · rw [if_pos c7] at H
      have c7b0 : (t118 == t119) = true := c7
      (try (have c7b1 : decide (t118 = t119) = true := by simpa using c7))
      (try (have c7b2 : (t118 == t119) = true := by simpa using c7))
      clear c7
      replace H := Option.bind_eq_some_iff.mp H
      obtain ⟨⟨t120, t121, t122, t123, t124, t125, t126, t127, t128, t129, t130, t131⟩, A80, H⟩ := H
      replace H : ((event_Line.f t120 t121 t122 t123 t124 t125 t126 t127 t128 t129 t130 t131).bind fun t132 => ((knellref11_Line.f a0_0 a0_1 a0_2 a0_3 a0_4 a0_5 a0_6 a0_7 a0_8 a0_9 a0_10 a0_11).bind fun t133 => (some (t132.toList == t133.toList)))) = some r := H
      have A8 := Aside0.mk A80
      clear A80
      replace H := Option.bind_eq_some_iff.mp H
      obtain ⟨t132, A90, H⟩ := H
      replace H : ((knellref11_Line.f a0_0 a0_1 a0_2 a0_3 a0_4 a0_5 a0_6 a0_7 a0_8 a0_9 a0_10 a0_11).bind fun t133 => (some (t132.toList == t133.toList))) = some r := H
      have A9 := Aside0.mk A90
      clear A90
      replace H := Option.bind_eq_some_iff.mp H
      obtain ⟨t133, A100, H⟩ := H
      replace H : (some (t132.toList == t133.toList)) = some r := H
      have A10 := Aside0.mk A100
      clear A100
      obtain rfl := Option.some.inj H
      go_enter Tryd.func3, Tryd.ntmps3
      try go_wp2_with (first | ((with_reducible refine gate_dst (N := 1) rfl ?_); refine box_event ?hg (N := 1) ?hd (cs := #[.int .i64 a0_0, .int .i64 a0_1, .int .i64 a0_2, .int .i64 a0_3, .int .i64 a0_4, .int .i64 a0_5, .int .i64 a0_6, .int .i64 a0_7, .int .i64 a0_8, .int .i64 a0_9, .bool a0_10, .int .i64 a0_11]) (t := 25) ?hr ?_; (case hd => rfl); (case hg => rfl); (case hr => first | (go_simp; done) | (go_simp; rfl)); intro gb104 hg w11 hbox hb; have n0_ := Aside0.mk (below_step (by repeat (first | (with_reducible first | exact HB.out | apply below_alloc | apply pw_below_drewN | apply below_drew1) | exact HB.out)) hb); have n1_ := Aside0.mk (hbox); have n2_ := Aside0.mk ((by rw [hg]; exact (below_size (by repeat (first | (with_reducible first | exact HB.out | apply below_alloc | apply pw_below_drewN | apply below_drew1) | exact HB.out))) : w.heap.size ≤ gb104)); have n3_ := Aside0.mk ((by rw [hg]; exact (below_size (by repeat (first | (with_reducible first | exact HB.out | apply below_alloc | apply pw_below_drewN | apply below_drew1) | exact HB.out))) : w.heap.size ≤ gb104)); clear HB; have HB := n0_; have BK104 := n1_; have GW104 := n2_; have GE104 := n3_; clear n0_ n1_ n2_ n3_; clear hb hbox hg))
      have n0_ := Aside0.mk (blk_drew BK104.out)
      have n1_ := Aside0.mk (below_drew1 HB.out)
      clear BK104
      clear HB
      have BK104 := n0_
      have HB := n1_
      clear n0_ n1_
      refine start_ (n := 18) (S := fun w' => w'.cell? ⟨gb104, 0, none⟩ = some (.int .i64 a0_0) ∧ w'.cell? ⟨gb104, 1, none⟩ = some (.int .i64 a0_1) ∧ w'.cell? ⟨gb104, 2, none⟩ = some (.int .i64 a0_2) ∧ w'.cell? ⟨gb104, 3, none⟩ = some (.int .i64 a0_3) ∧ w'.cell? ⟨gb104, 4, none⟩ = some (.int .i64 a0_4) ∧ w'.cell? ⟨gb104, 5, none⟩ = some (.int .i64 a0_5) ∧ w'.cell? ⟨gb104, 6, none⟩ = some (.int .i64 a0_6) ∧ w'.cell? ⟨gb104, 7, none⟩ = some (.int .i64 a0_7) ∧ w'.cell? ⟨gb104, 8, none⟩ = some (.int .i64 a0_8) ∧ w'.cell? ⟨gb104, 9, none⟩ = some (.int .i64 a0_9) ∧ w'.cell? ⟨gb104, 10, none⟩ = some (.bool a0_10) ∧ w'.cell? ⟨gb104, 11, none⟩ = some (.int .i64 a0_11)) (ds := []) #[false, false, false, false, false, false, false, false, false, false, false, false, false, false, false, false, false, false] (by kernel_rfl) rfl rfl ⟨(blk_cell BK104.out 0).trans rfl, (blk_cell BK104.out 1).trans rfl, (blk_cell BK104.out 2).trans rfl, (blk_cell BK104.out 3).trans rfl, (blk_cell BK104.out 4).trans rfl, (blk_cell BK104.out 5).trans rfl, (blk_cell BK104.out 6).trans rfl, (blk_cell BK104.out 7).trans rfl, (blk_cell BK104.out 8).trans rfl, (blk_cell BK104.out 9).trans rfl, (blk_cell BK104.out 10).trans rfl, (blk_cell BK104.out 11).trans rfl⟩ (fun hHeld => ?_); refine with_tabW knelllaw11_EventTells.tab1 knelllaw11_EventTells.bits1 (fun HT_ HW_ => ?_)
      generalize w11.drew = w12 at BK104 HB hHeld ⊢
      refine one_ (i := 0) (N := some 3) #[true, false, false, false, false, false, false, false, false, false, false, false, false, false, false, false, false, false] rfl rfl (one_of HT_.out (by kernel_rfl)) (by decide) (fun K hK => ?_)
      refine goes_ Tryd.func7 (by kernel_rfl) rfl #[] (by rfl) rfl rfl (by (try simp only [List.map_toArray, List.map_cons, List.map_nil]); first | done | rfl | (simp only [List.length_drop, List.length_take]; rfl)) ?_
      with_reducible refine (knelllaw11_speaks.calls  true _ (Go.Proofs.YthniclbmpeklmaaDoor.Ev.Tab.below HTAB_.out (by repeat (first | (with_reducible first | exact HB.out | apply below_alloc | apply pw_below_drewN | apply below_drew1) | exact HB.out))) A2.out).mono ?_
      rintro e w13 ⟨rfl, hb⟩
      refine ⟨_, rfl, ?_⟩
      have n0_ := Aside0.mk (blk_below (g := gb104) (o := .cells #[.int .i64 a0_0, .int .i64 a0_1, .int .i64 a0_2, .int .i64 a0_3, .int .i64 a0_4, .int .i64 a0_5, .int .i64 a0_6, .int .i64 a0_7, .int .i64 a0_8, .int .i64 a0_9, .bool a0_10, .int .i64 a0_11] 25 (0, 0)) (by (with_reducible repeat (first | refine blk_drewN ?_ _ | refine blk_drew ?_ | refine blk_alloc ?_ _)); exact BK104.out) hb)
      have n1_ := Aside0.mk (below_step (by repeat (first | (with_reducible first | exact HB.out | apply below_alloc | apply pw_below_drewN | apply below_drew1 | refine below_set ?_ GE104.out) | exact HB.out)) hb)
      clear BK104
      clear HB
      have BK104 := n0_
      have HB := n1_
      clear n0_ n1_
      (try clear hb)
      (try clear hb2)
      (try clear hk)
      (try clear hi)
      refine hK.out _ _ ⟨(blk_cell BK104.out 0).trans rfl, (blk_cell BK104.out 1).trans rfl, (blk_cell BK104.out 2).trans rfl, (blk_cell BK104.out 3).trans rfl, (blk_cell BK104.out 4).trans rfl, (blk_cell BK104.out 5).trans rfl, (blk_cell BK104.out 6).trans rfl, (blk_cell BK104.out 7).trans rfl, (blk_cell BK104.out 8).trans rfl, (blk_cell BK104.out 9).trans rfl, (blk_cell BK104.out 10).trans rfl, (blk_cell BK104.out 11).trans rfl⟩ (fun hHeld => ?_)
      clear hK K
      refine norm_ (a' := ?_) ?_ ?_
      rotate_left
      · show Act.put _ (some 3) _ = _
        simp only [Act.put, List.setIfInBounds_toArray, List.set_cons_zero, List.set_cons_succ, i64_w, i32_w]
        rfl
      refine pure_ (i := 1) (N := some 4) (v := ?_) (a' := ?_) #[true, true, false, false, false, false, false, false, false, false, false, false, false, false, false, false, false, false] rfl rfl (any_of HT_.out (by kernel_rfl)) (fun _ _ _ h => h) (Or.inl ⟨by rfl, ?_⟩) ?_ ?_
      rotate_left
      · intro w'
        go_simp
        with_reducible rfl
      rotate_left
      · simp only [Act.put, List.setIfInBounds_toArray, List.set_cons_zero, List.set_cons_succ, i64_w, i32_w]
        rfl
      refine take_ (i := 2) (N := some 5) (v := ?_) (a' := ?_) #[true, true, true, false, false, false, false, false, false, false, false, false, false, false, false, false, false, false] rfl rfl (take_ofW HT_.out HW_.out (by kernel_rfl)) (fun _ _ _ h => h) (Or.inl ⟨by rfl, ?_⟩) hHeld ?_ ?_
      rotate_left
      · rintro w' ⟨s0, s1, s2, s3, s4, s5, s6, s7, s8, s9, s10, s11⟩
        go_simp
        with_reducible rfl
      rotate_left
      · simp only [Act.put, List.setIfInBounds_toArray, List.set_cons_zero, List.set_cons_succ, i64_w, i32_w]
        rfl
      refine take_ (i := 5) (N := some 8) (v := ?_) (a' := ?_) #[true, true, true, false, false, true, false, false, false, false, false, false, false, false, false, false, false, false] rfl rfl (take_ofW HT_.out HW_.out (by kernel_rfl)) (fun _ _ _ h => h) (Or.inl ⟨by rfl, ?_⟩) hHeld ?_ ?_
      rotate_left
      · rintro w' ⟨s0, s1, s2, s3, s4, s5, s6, s7, s8, s9, s10, s11⟩
        go_simp
        with_reducible rfl
      rotate_left
      · simp only [Act.put, List.setIfInBounds_toArray, List.set_cons_zero, List.set_cons_succ, i64_w, i32_w]
        rfl
      refine one_ (i := 3) (N := some 6) #[true, true, true, true, false, true, false, false, false, false, false, false, false, false, false, false, false, false] rfl rfl (one_of HT_.out (by kernel_rfl)) (by decide) (fun K hK => ?_)
      refine goes_ Tryd.func9 (by kernel_rfl) rfl #[.agg #[.int .i64 a0_0, .int .i64 a0_1, .int .i64 a0_2, .int .i64 a0_3, .int .i64 a0_4, .int .i64 a0_5, .int .i64 a0_6, .int .i64 a0_7, .int .i64 a0_8, .int .i64 a0_9, .bool a0_10, .int .i64 a0_11]] (by rfl) rfl rfl (by (try simp only [List.map_toArray, List.map_cons, List.map_nil]); first | done | rfl | (simp only [List.length_drop, List.length_take]; rfl)) ?_
      with_reducible refine (knelllaw11_Of.calls a0_0 a0_1 a0_2 a0_3 a0_4 a0_5 a0_6 a0_7 a0_8 a0_9 a0_10 a0_11 t106 t107 t108 t109 t110 t111 t112 t113 t114 t115 t116 t117 _ A4.out).mono ?_
      rintro e w14 ⟨rfl, hb⟩
      refine ⟨_, rfl, ?_⟩
      have n0_ := Aside0.mk (blk_below (g := gb104) (o := .cells #[.int .i64 a0_0, .int .i64 a0_1, .int .i64 a0_2, .int .i64 a0_3, .int .i64 a0_4, .int .i64 a0_5, .int .i64 a0_6, .int .i64 a0_7, .int .i64 a0_8, .int .i64 a0_9, .bool a0_10, .int .i64 a0_11] 25 (0, 0)) (by (with_reducible repeat (first | refine blk_drewN ?_ _ | refine blk_drew ?_ | refine blk_alloc ?_ _)); exact BK104.out) hb)
      have n1_ := Aside0.mk (below_step (by repeat (first | (with_reducible first | exact HB.out | apply below_alloc | apply pw_below_drewN | apply below_drew1 | refine below_set ?_ GE104.out) | exact HB.out)) hb)
      clear BK104
      clear HB
      have BK104 := n0_
      have HB := n1_
      clear n0_ n1_
      (try clear hb)
      (try clear hb2)
      (try clear hk)
      (try clear hi)
      refine hK.out _ _ ⟨(blk_cell BK104.out 0).trans rfl, (blk_cell BK104.out 1).trans rfl, (blk_cell BK104.out 2).trans rfl, (blk_cell BK104.out 3).trans rfl, (blk_cell BK104.out 4).trans rfl, (blk_cell BK104.out 5).trans rfl, (blk_cell BK104.out 6).trans rfl, (blk_cell BK104.out 7).trans rfl, (blk_cell BK104.out 8).trans rfl, (blk_cell BK104.out 9).trans rfl, (blk_cell BK104.out 10).trans rfl, (blk_cell BK104.out 11).trans rfl⟩ (fun hHeld => ?_)
      clear hK K
      refine norm_ (a' := ?_) ?_ ?_
      rotate_left
      · show Act.put _ (some 6) _ = _
        simp only [Act.put, List.setIfInBounds_toArray, List.set_cons_zero, List.set_cons_succ, i64_w, i32_w]
        rfl
      refine one_ (i := 4) (N := some 7) #[true, true, true, true, true, true, false, false, false, false, false, false, false, false, false, false, false, false] rfl rfl (one_of HT_.out (by kernel_rfl)) (by decide) (fun K hK => ?_)
      refine goes_ Tryd.func8 (by kernel_rfl) rfl #[.agg #[.int .i64 t106, .int .i64 t107, .int .i64 t108, .int .i64 t109, .int .i64 t110, .int .i64 t111, .int .i64 t112, .int .i64 t113, .int .i64 t114, .int .i64 t115, .bool t116, .int .i64 t117]] (by rfl) rfl rfl (by (try simp only [List.map_toArray, List.map_cons, List.map_nil]); first | done | rfl | (simp only [List.length_drop, List.length_take]; rfl)) ?_
      with_reducible refine (event_Right.calls t106 t107 t108 t109 t110 t111 t112 t113 t114 t115 t116 t117 t118 _ A5.out).mono ?_
      rintro e w15 ⟨rfl, hb⟩
      refine ⟨_, rfl, ?_⟩
      have n0_ := Aside0.mk (blk_below (g := gb104) (o := .cells #[.int .i64 a0_0, .int .i64 a0_1, .int .i64 a0_2, .int .i64 a0_3, .int .i64 a0_4, .int .i64 a0_5, .int .i64 a0_6, .int .i64 a0_7, .int .i64 a0_8, .int .i64 a0_9, .bool a0_10, .int .i64 a0_11] 25 (0, 0)) (by (with_reducible repeat (first | refine blk_drewN ?_ _ | refine blk_drew ?_ | refine blk_alloc ?_ _)); exact BK104.out) hb)
      have n1_ := Aside0.mk (below_step (by repeat (first | (with_reducible first | exact HB.out | apply below_alloc | apply pw_below_drewN | apply below_drew1 | refine below_set ?_ GE104.out) | exact HB.out)) hb)
      clear BK104
      clear HB
      have BK104 := n0_
      have HB := n1_
      clear n0_ n1_
      (try clear hb)
      (try clear hb2)
      (try clear hk)
      (try clear hi)
      refine hK.out _ _ ⟨(blk_cell BK104.out 0).trans rfl, (blk_cell BK104.out 1).trans rfl, (blk_cell BK104.out 2).trans rfl, (blk_cell BK104.out 3).trans rfl, (blk_cell BK104.out 4).trans rfl, (blk_cell BK104.out 5).trans rfl, (blk_cell BK104.out 6).trans rfl, (blk_cell BK104.out 7).trans rfl, (blk_cell BK104.out 8).trans rfl, (blk_cell BK104.out 9).trans rfl, (blk_cell BK104.out 10).trans rfl, (blk_cell BK104.out 11).trans rfl⟩ (fun hHeld => ?_)
      clear hK K
      refine norm_ (a' := ?_) ?_ ?_
      rotate_left
      · show Act.put _ (some 7) _ = _
        simp only [Act.put, List.setIfInBounds_toArray, List.set_cons_zero, List.set_cons_succ, i64_w, i32_w]
        rfl
      refine one_ (i := 6) (N := some 9) #[true, true, true, true, true, true, true, false, false, false, false, false, false, false, false, false, false, false] rfl rfl (one_of HT_.out (by kernel_rfl)) (by decide) (fun K hK => ?_)
      refine goes_ Tryd.func10 (by kernel_rfl) rfl #[.agg #[.int .i64 a0_0, .int .i64 a0_1, .int .i64 a0_2, .int .i64 a0_3, .int .i64 a0_4, .int .i64 a0_5, .int .i64 a0_6, .int .i64 a0_7, .int .i64 a0_8, .int .i64 a0_9, .bool a0_10, .int .i64 a0_11]] (by rfl) rfl rfl (by (try simp only [List.map_toArray, List.map_cons, List.map_nil]); first | done | rfl | (simp only [List.length_drop, List.length_take]; rfl)) ?_
      with_reducible refine (knellref11_Right.calls a0_0 a0_1 a0_2 a0_3 a0_4 a0_5 a0_6 a0_7 a0_8 a0_9 a0_10 a0_11 t119 _ A6.out).mono ?_
      rintro e w16 ⟨rfl, hb⟩
      refine ⟨_, rfl, ?_⟩
      have n0_ := Aside0.mk (blk_below (g := gb104) (o := .cells #[.int .i64 a0_0, .int .i64 a0_1, .int .i64 a0_2, .int .i64 a0_3, .int .i64 a0_4, .int .i64 a0_5, .int .i64 a0_6, .int .i64 a0_7, .int .i64 a0_8, .int .i64 a0_9, .bool a0_10, .int .i64 a0_11] 25 (0, 0)) (by (with_reducible repeat (first | refine blk_drewN ?_ _ | refine blk_drew ?_ | refine blk_alloc ?_ _)); exact BK104.out) hb)
      have n1_ := Aside0.mk (below_step (by repeat (first | (with_reducible first | exact HB.out | apply below_alloc | apply pw_below_drewN | apply below_drew1 | refine below_set ?_ GE104.out) | exact HB.out)) hb)
      clear BK104
      clear HB
      have BK104 := n0_
      have HB := n1_
      clear n0_ n1_
      (try clear hb)
      (try clear hb2)
      (try clear hk)
      (try clear hi)
      refine hK.out _ _ ⟨(blk_cell BK104.out 0).trans rfl, (blk_cell BK104.out 1).trans rfl, (blk_cell BK104.out 2).trans rfl, (blk_cell BK104.out 3).trans rfl, (blk_cell BK104.out 4).trans rfl, (blk_cell BK104.out 5).trans rfl, (blk_cell BK104.out 6).trans rfl, (blk_cell BK104.out 7).trans rfl, (blk_cell BK104.out 8).trans rfl, (blk_cell BK104.out 9).trans rfl, (blk_cell BK104.out 10).trans rfl, (blk_cell BK104.out 11).trans rfl⟩ (fun hHeld => ?_)
      clear hK K
      refine norm_ (a' := ?_) ?_ ?_
      rotate_left
      · show Act.put _ (some 9) _ = _
        simp only [Act.put, List.setIfInBounds_toArray, List.set_cons_zero, List.set_cons_succ, i64_w, i32_w]
        rfl
      refine pure_ (i := 7) (N := some 10) (v := ?_) (a' := ?_) #[true, true, true, true, true, true, true, true, false, false, false, false, false, false, false, false, false, false] rfl rfl (any_of HT_.out (by kernel_rfl)) (fun _ _ _ h => h) (Or.inl ⟨by rfl, ?_⟩) ?_ ?_
      rotate_left
      · intro w'
        go_simp
        with_reducible rfl
      rotate_left
      · simp only [Act.put, List.setIfInBounds_toArray, List.set_cons_zero, List.set_cons_succ, i64_w, i32_w]
        rfl
      refine pure_ (i := 8) (N := some 11) (v := ?_) (a' := ?_) #[true, true, true, true, true, true, true, true, true, false, false, false, false, false, false, false, false, false] rfl rfl (any_of HT_.out (by kernel_rfl)) (fun _ _ _ h => h) (Or.inl ⟨by rfl, ?_⟩) ?_ ?_
      rotate_left
      · intro w'
        go_simp
        with_reducible rfl
      rotate_left
      · simp only [Act.put, List.setIfInBounds_toArray, List.set_cons_zero, List.set_cons_succ, i64_w, i32_w]
        rfl
      refine pure_ (i := 9) (N := some 12) (v := ?_) (a' := ?_) #[true, true, true, true, true, true, true, true, true, true, false, false, false, false, false, false, false, false] rfl rfl (any_of HT_.out (by kernel_rfl)) (fun _ _ _ h => h) (Or.inl ⟨by rfl, ?_⟩) ?_ ?_
      rotate_left
      · intro w'
        go_simp
        with_reducible rfl
      rotate_left
      · simp only [Act.put, List.setIfInBounds_toArray, List.set_cons_zero, List.set_cons_succ, i64_w, i32_w]
        rfl
      refine take_ (i := 10) (N := some 13) (v := ?_) (a' := ?_) #[true, true, true, true, true, true, true, true, true, true, true, false, false, false, false, false, false, false] rfl rfl (take_ofW HT_.out HW_.out (by kernel_rfl)) (fun _ _ _ h => h) (Or.inl ⟨by rfl, ?_⟩) hHeld ?_ ?_
      rotate_left
      · rintro w' ⟨s0, s1, s2, s3, s4, s5, s6, s7, s8, s9, s10, s11⟩
        go_simp
        with_reducible rfl
      rotate_left
      · simp only [Act.put, List.setIfInBounds_toArray, List.set_cons_zero, List.set_cons_succ, i64_w, i32_w]
        rfl
      refine take_ (i := 13) (N := some 16) (v := ?_) (a' := ?_) #[true, true, true, true, true, true, true, true, true, true, true, false, false, true, false, false, false, false] rfl rfl (take_ofW HT_.out HW_.out (by kernel_rfl)) (fun _ _ _ h => h) (Or.inl ⟨by rfl, ?_⟩) hHeld ?_ ?_
      rotate_left
      · rintro w' ⟨s0, s1, s2, s3, s4, s5, s6, s7, s8, s9, s10, s11⟩
        go_simp
        with_reducible rfl
      rotate_left
      · simp only [Act.put, List.setIfInBounds_toArray, List.set_cons_zero, List.set_cons_succ, i64_w, i32_w]
        rfl
      refine one_ (i := 11) (N := some 14) #[true, true, true, true, true, true, true, true, true, true, true, true, false, true, false, false, false, false] rfl rfl (one_of HT_.out (by kernel_rfl)) (by decide) (fun K hK => ?_)
      refine goes_ Tryd.func9 (by kernel_rfl) rfl #[.agg #[.int .i64 a0_0, .int .i64 a0_1, .int .i64 a0_2, .int .i64 a0_3, .int .i64 a0_4, .int .i64 a0_5, .int .i64 a0_6, .int .i64 a0_7, .int .i64 a0_8, .int .i64 a0_9, .bool a0_10, .int .i64 a0_11]] (by rfl) rfl rfl (by (try simp only [List.map_toArray, List.map_cons, List.map_nil]); first | done | rfl | (simp only [List.length_drop, List.length_take]; rfl)) ?_
      with_reducible refine (knelllaw11_Of.calls a0_0 a0_1 a0_2 a0_3 a0_4 a0_5 a0_6 a0_7 a0_8 a0_9 a0_10 a0_11 t120 t121 t122 t123 t124 t125 t126 t127 t128 t129 t130 t131 _ A8.out).mono ?_
      rintro e w17 ⟨rfl, hb⟩
      refine ⟨_, rfl, ?_⟩
      have n0_ := Aside0.mk (blk_below (g := gb104) (o := .cells #[.int .i64 a0_0, .int .i64 a0_1, .int .i64 a0_2, .int .i64 a0_3, .int .i64 a0_4, .int .i64 a0_5, .int .i64 a0_6, .int .i64 a0_7, .int .i64 a0_8, .int .i64 a0_9, .bool a0_10, .int .i64 a0_11] 25 (0, 0)) (by (with_reducible repeat (first | refine blk_drewN ?_ _ | refine blk_drew ?_ | refine blk_alloc ?_ _)); exact BK104.out) hb)
      have n1_ := Aside0.mk (below_step (by repeat (first | (with_reducible first | exact HB.out | apply below_alloc | apply pw_below_drewN | apply below_drew1 | refine below_set ?_ GE104.out) | exact HB.out)) hb)
      clear BK104
      clear HB
      have BK104 := n0_
      have HB := n1_
      clear n0_ n1_
      (try clear hb)
      (try clear hb2)
      (try clear hk)
      (try clear hi)
      refine hK.out _ _ ⟨(blk_cell BK104.out 0).trans rfl, (blk_cell BK104.out 1).trans rfl, (blk_cell BK104.out 2).trans rfl, (blk_cell BK104.out 3).trans rfl, (blk_cell BK104.out 4).trans rfl, (blk_cell BK104.out 5).trans rfl, (blk_cell BK104.out 6).trans rfl, (blk_cell BK104.out 7).trans rfl, (blk_cell BK104.out 8).trans rfl, (blk_cell BK104.out 9).trans rfl, (blk_cell BK104.out 10).trans rfl, (blk_cell BK104.out 11).trans rfl⟩ (fun hHeld => ?_)
      clear hK K
      refine norm_ (a' := ?_) ?_ ?_
      rotate_left
      · show Act.put _ (some 14) _ = _
        simp only [Act.put, List.setIfInBounds_toArray, List.set_cons_zero, List.set_cons_succ, i64_w, i32_w]
        rfl
      refine one_ (i := 12) (N := some 15) #[true, true, true, true, true, true, true, true, true, true, true, true, true, true, false, false, false, false] rfl rfl (one_of HT_.out (by kernel_rfl)) (by decide) (fun K hK => ?_)
      refine goes_ Tryd.func11 (by kernel_rfl) rfl #[.agg #[.int .i64 t120, .int .i64 t121, .int .i64 t122, .int .i64 t123, .int .i64 t124, .int .i64 t125, .int .i64 t126, .int .i64 t127, .int .i64 t128, .int .i64 t129, .bool t130, .int .i64 t131]] (by rfl) rfl rfl (by (try simp only [List.map_toArray, List.map_cons, List.map_nil]); first | done | rfl | (simp only [List.length_drop, List.length_take]; rfl)) ?_
      with_reducible refine (event_Line.calls t120 t121 t122 t123 t124 t125 t126 t127 t128 t129 t130 t131 t132 _ (Go.Proofs.YthniclbmpeklmaaDoor.Ev.Tab.below HTAB_.out (by repeat (first | (with_reducible first | exact HB.out | apply below_alloc | apply pw_below_drewN | apply below_drew1) | exact HB.out))) A9.out).mono ?_
      rintro e w18 ⟨rfl, hb⟩
      refine ⟨_, rfl, ?_⟩
      have n0_ := Aside0.mk (blk_below (g := gb104) (o := .cells #[.int .i64 a0_0, .int .i64 a0_1, .int .i64 a0_2, .int .i64 a0_3, .int .i64 a0_4, .int .i64 a0_5, .int .i64 a0_6, .int .i64 a0_7, .int .i64 a0_8, .int .i64 a0_9, .bool a0_10, .int .i64 a0_11] 25 (0, 0)) (by (with_reducible repeat (first | refine blk_drewN ?_ _ | refine blk_drew ?_ | refine blk_alloc ?_ _)); exact BK104.out) hb)
      have n1_ := Aside0.mk (below_step (by repeat (first | (with_reducible first | exact HB.out | apply below_alloc | apply pw_below_drewN | apply below_drew1 | refine below_set ?_ GE104.out) | exact HB.out)) hb)
      clear BK104
      clear HB
      have BK104 := n0_
      have HB := n1_
      clear n0_ n1_
      (try clear hb)
      (try clear hb2)
      (try clear hk)
      (try clear hi)
      refine hK.out _ _ ⟨(blk_cell BK104.out 0).trans rfl, (blk_cell BK104.out 1).trans rfl, (blk_cell BK104.out 2).trans rfl, (blk_cell BK104.out 3).trans rfl, (blk_cell BK104.out 4).trans rfl, (blk_cell BK104.out 5).trans rfl, (blk_cell BK104.out 6).trans rfl, (blk_cell BK104.out 7).trans rfl, (blk_cell BK104.out 8).trans rfl, (blk_cell BK104.out 9).trans rfl, (blk_cell BK104.out 10).trans rfl, (blk_cell BK104.out 11).trans rfl⟩ (fun hHeld => ?_)
      clear hK K
      refine norm_ (a' := ?_) ?_ ?_
      rotate_left
      · show Act.put _ (some 15) _ = _
        simp only [Act.put, List.setIfInBounds_toArray, List.set_cons_zero, List.set_cons_succ, i64_w, i32_w]
        rfl
      refine one_ (i := 14) (N := some 17) #[true, true, true, true, true, true, true, true, true, true, true, true, true, true, true, false, false, false] rfl rfl (one_of HT_.out (by kernel_rfl)) (by decide) (fun K hK => ?_)
      refine goes_ Tryd.func12 (by kernel_rfl) rfl #[.agg #[.int .i64 a0_0, .int .i64 a0_1, .int .i64 a0_2, .int .i64 a0_3, .int .i64 a0_4, .int .i64 a0_5, .int .i64 a0_6, .int .i64 a0_7, .int .i64 a0_8, .int .i64 a0_9, .bool a0_10, .int .i64 a0_11]] (by rfl) rfl rfl (by (try simp only [List.map_toArray, List.map_cons, List.map_nil]); first | done | rfl | (simp only [List.length_drop, List.length_take]; rfl)) ?_
      with_reducible refine (knellref11_Line.calls a0_0 a0_1 a0_2 a0_3 a0_4 a0_5 a0_6 a0_7 a0_8 a0_9 a0_10 a0_11 t133 _ A10.out).mono ?_
      rintro e w19 ⟨rfl, hb⟩
      refine ⟨_, rfl, ?_⟩
      have n0_ := Aside0.mk (blk_below (g := gb104) (o := .cells #[.int .i64 a0_0, .int .i64 a0_1, .int .i64 a0_2, .int .i64 a0_3, .int .i64 a0_4, .int .i64 a0_5, .int .i64 a0_6, .int .i64 a0_7, .int .i64 a0_8, .int .i64 a0_9, .bool a0_10, .int .i64 a0_11] 25 (0, 0)) (by (with_reducible repeat (first | refine blk_drewN ?_ _ | refine blk_drew ?_ | refine blk_alloc ?_ _)); exact BK104.out) hb)
      have n1_ := Aside0.mk (below_step (by repeat (first | (with_reducible first | exact HB.out | apply below_alloc | apply pw_below_drewN | apply below_drew1 | refine below_set ?_ GE104.out) | exact HB.out)) hb)
      clear BK104
      clear HB
      have BK104 := n0_
      have HB := n1_
      clear n0_ n1_
      (try clear hb)
      (try clear hb2)
      (try clear hk)
      (try clear hi)
      refine hK.out _ _ ⟨(blk_cell BK104.out 0).trans rfl, (blk_cell BK104.out 1).trans rfl, (blk_cell BK104.out 2).trans rfl, (blk_cell BK104.out 3).trans rfl, (blk_cell BK104.out 4).trans rfl, (blk_cell BK104.out 5).trans rfl, (blk_cell BK104.out 6).trans rfl, (blk_cell BK104.out 7).trans rfl, (blk_cell BK104.out 8).trans rfl, (blk_cell BK104.out 9).trans rfl, (blk_cell BK104.out 10).trans rfl, (blk_cell BK104.out 11).trans rfl⟩ (fun hHeld => ?_)
      clear hK K
      refine norm_ (a' := ?_) ?_ ?_
      rotate_left
      · show Act.put _ (some 17) _ = _
        simp only [Act.put, List.setIfInBounds_toArray, List.set_cons_zero, List.set_cons_succ, i64_w, i32_w]
        rfl
      refine pure_ (i := 15) (N := some 18) (v := ?_) (a' := ?_) #[true, true, true, true, true, true, true, true, true, true, true, true, true, true, true, true, false, false] rfl rfl (any_of HT_.out (by kernel_rfl)) (fun _ _ _ h => h) (Or.inl ⟨by rfl, ?_⟩) ?_ ?_
      rotate_left
      · intro w'
        go_simp
        with_reducible rfl
      rotate_left
      · simp only [Act.put, List.setIfInBounds_toArray, List.set_cons_zero, List.set_cons_succ, i64_w, i32_w]
        rfl
      refine pure_ (i := 16) (N := some 19) (v := ?_) (a' := ?_) #[true, true, true, true, true, true, true, true, true, true, true, true, true, true, true, true, true, false] rfl rfl (any_of HT_.out (by kernel_rfl)) (fun _ _ _ h => h) (Or.inl ⟨by rfl, ?_⟩) ?_ ?_
      rotate_left
      · intro w'
        go_simp
        with_reducible rfl
      rotate_left
      · simp only [Act.put, List.setIfInBounds_toArray, List.set_cons_zero, List.set_cons_succ, i64_w, i32_w]
        rfl
      refine pure_ (i := 17) (N := some 2) (v := ?_) (a' := ?_) #[true, true, true, true, true, true, true, true, true, true, true, true, true, true, true, true, true, true] rfl rfl (any_of HT_.out (by kernel_rfl)) (fun _ _ _ h => h) (Or.inl ⟨by rfl, ?_⟩) ?_ ?_
      rotate_left
      · intro w'
        go_simp
        with_reducible rfl
      rotate_left
      · simp only [Act.put, List.setIfInBounds_toArray, List.set_cons_zero, List.set_cons_succ, i64_w, i32_w]
        rfl
      refine done_ (done_of HT_.out (by kernel_rfl)) ?_
      try go_wp2
      go_ret
      exact ⟨by first | rfl | (simp [errW_none, errW_some] <;> rfl) | (simp [*, errW_none, errW_some] <;> rfl), by repeat (first | (with_reducible first | exact HB.out | apply below_alloc | apply pw_below_drewN | apply below_drew1 | refine below_set ?_ GE104.out) | exact HB.out)⟩
    · rw [if_neg c7] at H
      have c7b0 : (t118 == t119) = false := by simpa using c7
      (try (have c7b1 : decide (t118 = t119) = false := by simpa using c7))
      (try (have c7b2 : (t118 == t119) = false := by simpa using c7))
      (try (have c7b3 : ¬ (t118 = t119) := by simpa using c7))
      clear c7
      obtain rfl := Option.some.inj H
      go_enter Tryd.func3, Tryd.ntmps3
      try go_wp2_with (first | ((with_reducible refine gate_dst (N := 1) rfl ?_); refine box_event ?hg (N := 1) ?hd (cs := #[.int .i64 a0_0, .int .i64 a0_1, .int .i64 a0_2, .int .i64 a0_3, .int .i64 a0_4, .int .i64 a0_5, .int .i64 a0_6, .int .i64 a0_7, .int .i64 a0_8, .int .i64 a0_9, .bool a0_10, .int .i64 a0_11]) (t := 25) ?hr ?_; (case hd => rfl); (case hg => rfl); (case hr => first | (go_simp; done) | (go_simp; rfl)); intro gb104 hg w20 hbox hb; have n0_ := Aside0.mk (below_step (by repeat (first | (with_reducible first | exact HB.out | apply below_alloc | apply pw_below_drewN | apply below_drew1) | exact HB.out)) hb); have n1_ := Aside0.mk (hbox); have n2_ := Aside0.mk ((by rw [hg]; exact (below_size (by repeat (first | (with_reducible first | exact HB.out | apply below_alloc | apply pw_below_drewN | apply below_drew1) | exact HB.out))) : w.heap.size ≤ gb104)); have n3_ := Aside0.mk ((by rw [hg]; exact (below_size (by repeat (first | (with_reducible first | exact HB.out | apply below_alloc | apply pw_below_drewN | apply below_drew1) | exact HB.out))) : w.heap.size ≤ gb104)); clear HB; have HB := n0_; have BK104 := n1_; have GW104 := n2_; have GE104 := n3_; clear n0_ n1_ n2_ n3_; clear hb hbox hg))
      have n0_ := Aside0.mk (blk_drew BK104.out)
      have n1_ := Aside0.mk (below_drew1 HB.out)
      clear BK104
      clear HB
      have BK104 := n0_
      have HB := n1_
      clear n0_ n1_
      refine start_ (n := 18) (S := fun w' => w'.cell? ⟨gb104, 0, none⟩ = some (.int .i64 a0_0) ∧ w'.cell? ⟨gb104, 1, none⟩ = some (.int .i64 a0_1) ∧ w'.cell? ⟨gb104, 2, none⟩ = some (.int .i64 a0_2) ∧ w'.cell? ⟨gb104, 3, none⟩ = some (.int .i64 a0_3) ∧ w'.cell? ⟨gb104, 4, none⟩ = some (.int .i64 a0_4) ∧ w'.cell? ⟨gb104, 5, none⟩ = some (.int .i64 a0_5) ∧ w'.cell? ⟨gb104, 6, none⟩ = some (.int .i64 a0_6) ∧ w'.cell? ⟨gb104, 7, none⟩ = some (.int .i64 a0_7) ∧ w'.cell? ⟨gb104, 8, none⟩ = some (.int .i64 a0_8) ∧ w'.cell? ⟨gb104, 9, none⟩ = some (.int .i64 a0_9) ∧ w'.cell? ⟨gb104, 10, none⟩ = some (.bool a0_10) ∧ w'.cell? ⟨gb104, 11, none⟩ = some (.int .i64 a0_11)) (ds := []) #[false, false, false, false, false, false, false, false, false, false, false, false, false, false, false, false, false, false] (by kernel_rfl) rfl rfl ⟨(blk_cell BK104.out 0).trans rfl, (blk_cell BK104.out 1).trans rfl, (blk_cell BK104.out 2).trans rfl, (blk_cell BK104.out 3).trans rfl, (blk_cell BK104.out 4).trans rfl, (blk_cell BK104.out 5).trans rfl, (blk_cell BK104.out 6).trans rfl, (blk_cell BK104.out 7).trans rfl, (blk_cell BK104.out 8).trans rfl, (blk_cell BK104.out 9).trans rfl, (blk_cell BK104.out 10).trans rfl, (blk_cell BK104.out 11).trans rfl⟩ (fun hHeld => ?_); refine with_tabW knelllaw11_EventTells.tab1 knelllaw11_EventTells.bits1 (fun HT_ HW_ => ?_)
      generalize w20.drew = w21 at BK104 HB hHeld ⊢
      refine one_ (i := 0) (N := some 3) #[true, false, false, false, false, false, false, false, false, false, false, false, false, false, false, false, false, false] rfl rfl (one_of HT_.out (by kernel_rfl)) (by decide) (fun K hK => ?_)
      refine goes_ Tryd.func7 (by kernel_rfl) rfl #[] (by rfl) rfl rfl (by (try simp only [List.map_toArray, List.map_cons, List.map_nil]); first | done | rfl | (simp only [List.length_drop, List.length_take]; rfl)) ?_
      with_reducible refine (knelllaw11_speaks.calls  true _ (Go.Proofs.YthniclbmpeklmaaDoor.Ev.Tab.below HTAB_.out (by repeat (first | (with_reducible first | exact HB.out | apply below_alloc | apply pw_below_drewN | apply below_drew1) | exact HB.out))) A2.out).mono ?_
      rintro e w22 ⟨rfl, hb⟩
      refine ⟨_, rfl, ?_⟩
      have n0_ := Aside0.mk (blk_below (g := gb104) (o := .cells #[.int .i64 a0_0, .int .i64 a0_1, .int .i64 a0_2, .int .i64 a0_3, .int .i64 a0_4, .int .i64 a0_5, .int .i64 a0_6, .int .i64 a0_7, .int .i64 a0_8, .int .i64 a0_9, .bool a0_10, .int .i64 a0_11] 25 (0, 0)) (by (with_reducible repeat (first | refine blk_drewN ?_ _ | refine blk_drew ?_ | refine blk_alloc ?_ _)); exact BK104.out) hb)
      have n1_ := Aside0.mk (below_step (by repeat (first | (with_reducible first | exact HB.out | apply below_alloc | apply pw_below_drewN | apply below_drew1 | refine below_set ?_ GE104.out) | exact HB.out)) hb)
      clear BK104
      clear HB
      have BK104 := n0_
      have HB := n1_
      clear n0_ n1_
      (try clear hb)
      (try clear hb2)
      (try clear hk)
      (try clear hi)
      refine hK.out _ _ ⟨(blk_cell BK104.out 0).trans rfl, (blk_cell BK104.out 1).trans rfl, (blk_cell BK104.out 2).trans rfl, (blk_cell BK104.out 3).trans rfl, (blk_cell BK104.out 4).trans rfl, (blk_cell BK104.out 5).trans rfl, (blk_cell BK104.out 6).trans rfl, (blk_cell BK104.out 7).trans rfl, (blk_cell BK104.out 8).trans rfl, (blk_cell BK104.out 9).trans rfl, (blk_cell BK104.out 10).trans rfl, (blk_cell BK104.out 11).trans rfl⟩ (fun hHeld => ?_)
      clear hK K
      refine norm_ (a' := ?_) ?_ ?_
      rotate_left
      · show Act.put _ (some 3) _ = _
        simp only [Act.put, List.setIfInBounds_toArray, List.set_cons_zero, List.set_cons_succ, i64_w, i32_w]
        rfl
      refine pure_ (i := 1) (N := some 4) (v := ?_) (a' := ?_) #[true, true, false, false, false, false, false, false, false, false, false, false, false, false, false, false, false, false] rfl rfl (any_of HT_.out (by kernel_rfl)) (fun _ _ _ h => h) (Or.inl ⟨by rfl, ?_⟩) ?_ ?_
      rotate_left
      · intro w'
        go_simp
        with_reducible rfl
      rotate_left
      · simp only [Act.put, List.setIfInBounds_toArray, List.set_cons_zero, List.set_cons_succ, i64_w, i32_w]
        rfl
      refine take_ (i := 2) (N := some 5) (v := ?_) (a' := ?_) #[true, true, true, false, false, false, false, false, false, false, false, false, false, false, false, false, false, false] rfl rfl (take_ofW HT_.out HW_.out (by kernel_rfl)) (fun _ _ _ h => h) (Or.inl ⟨by rfl, ?_⟩) hHeld ?_ ?_
      rotate_left
      · rintro w' ⟨s0, s1, s2, s3, s4, s5, s6, s7, s8, s9, s10, s11⟩
        go_simp
        with_reducible rfl
      rotate_left
      · simp only [Act.put, List.setIfInBounds_toArray, List.set_cons_zero, List.set_cons_succ, i64_w, i32_w]
        rfl
      refine take_ (i := 5) (N := some 8) (v := ?_) (a' := ?_) #[true, true, true, false, false, true, false, false, false, false, false, false, false, false, false, false, false, false] rfl rfl (take_ofW HT_.out HW_.out (by kernel_rfl)) (fun _ _ _ h => h) (Or.inl ⟨by rfl, ?_⟩) hHeld ?_ ?_
      rotate_left
      · rintro w' ⟨s0, s1, s2, s3, s4, s5, s6, s7, s8, s9, s10, s11⟩
        go_simp
        with_reducible rfl
      rotate_left
      · simp only [Act.put, List.setIfInBounds_toArray, List.set_cons_zero, List.set_cons_succ, i64_w, i32_w]
        rfl
      refine one_ (i := 3) (N := some 6) #[true, true, true, true, false, true, false, false, false, false, false, false, false, false, false, false, false, false] rfl rfl (one_of HT_.out (by kernel_rfl)) (by decide) (fun K hK => ?_)
      refine goes_ Tryd.func9 (by kernel_rfl) rfl #[.agg #[.int .i64 a0_0, .int .i64 a0_1, .int .i64 a0_2, .int .i64 a0_3, .int .i64 a0_4, .int .i64 a0_5, .int .i64 a0_6, .int .i64 a0_7, .int .i64 a0_8, .int .i64 a0_9, .bool a0_10, .int .i64 a0_11]] (by rfl) rfl rfl (by (try simp only [List.map_toArray, List.map_cons, List.map_nil]); first | done | rfl | (simp only [List.length_drop, List.length_take]; rfl)) ?_
      with_reducible refine (knelllaw11_Of.calls a0_0 a0_1 a0_2 a0_3 a0_4 a0_5 a0_6 a0_7 a0_8 a0_9 a0_10 a0_11 t106 t107 t108 t109 t110 t111 t112 t113 t114 t115 t116 t117 _ A4.out).mono ?_
      rintro e w23 ⟨rfl, hb⟩
      refine ⟨_, rfl, ?_⟩
      have n0_ := Aside0.mk (blk_below (g := gb104) (o := .cells #[.int .i64 a0_0, .int .i64 a0_1, .int .i64 a0_2, .int .i64 a0_3, .int .i64 a0_4, .int .i64 a0_5, .int .i64 a0_6, .int .i64 a0_7, .int .i64 a0_8, .int .i64 a0_9, .bool a0_10, .int .i64 a0_11] 25 (0, 0)) (by (with_reducible repeat (first | refine blk_drewN ?_ _ | refine blk_drew ?_ | refine blk_alloc ?_ _)); exact BK104.out) hb)
      have n1_ := Aside0.mk (below_step (by repeat (first | (with_reducible first | exact HB.out | apply below_alloc | apply pw_below_drewN | apply below_drew1 | refine below_set ?_ GE104.out) | exact HB.out)) hb)
      clear BK104
      clear HB
      have BK104 := n0_
      have HB := n1_
      clear n0_ n1_
      (try clear hb)
      (try clear hb2)
      (try clear hk)
      (try clear hi)
      refine hK.out _ _ ⟨(blk_cell BK104.out 0).trans rfl, (blk_cell BK104.out 1).trans rfl, (blk_cell BK104.out 2).trans rfl, (blk_cell BK104.out 3).trans rfl, (blk_cell BK104.out 4).trans rfl, (blk_cell BK104.out 5).trans rfl, (blk_cell BK104.out 6).trans rfl, (blk_cell BK104.out 7).trans rfl, (blk_cell BK104.out 8).trans rfl, (blk_cell BK104.out 9).trans rfl, (blk_cell BK104.out 10).trans rfl, (blk_cell BK104.out 11).trans rfl⟩ (fun hHeld => ?_)
      clear hK K
      refine norm_ (a' := ?_) ?_ ?_
      rotate_left
      · show Act.put _ (some 6) _ = _
        simp only [Act.put, List.setIfInBounds_toArray, List.set_cons_zero, List.set_cons_succ, i64_w, i32_w]
        rfl
      refine one_ (i := 4) (N := some 7) #[true, true, true, true, true, true, false, false, false, false, false, false, false, false, false, false, false, false] rfl rfl (one_of HT_.out (by kernel_rfl)) (by decide) (fun K hK => ?_)
      refine goes_ Tryd.func8 (by kernel_rfl) rfl #[.agg #[.int .i64 t106, .int .i64 t107, .int .i64 t108, .int .i64 t109, .int .i64 t110, .int .i64 t111, .int .i64 t112, .int .i64 t113, .int .i64 t114, .int .i64 t115, .bool t116, .int .i64 t117]] (by rfl) rfl rfl (by (try simp only [List.map_toArray, List.map_cons, List.map_nil]); first | done | rfl | (simp only [List.length_drop, List.length_take]; rfl)) ?_
      with_reducible refine (event_Right.calls t106 t107 t108 t109 t110 t111 t112 t113 t114 t115 t116 t117 t118 _ A5.out).mono ?_
      rintro e w24 ⟨rfl, hb⟩
      refine ⟨_, rfl, ?_⟩
      have n0_ := Aside0.mk (blk_below (g := gb104) (o := .cells #[.int .i64 a0_0, .int .i64 a0_1, .int .i64 a0_2, .int .i64 a0_3, .int .i64 a0_4, .int .i64 a0_5, .int .i64 a0_6, .int .i64 a0_7, .int .i64 a0_8, .int .i64 a0_9, .bool a0_10, .int .i64 a0_11] 25 (0, 0)) (by (with_reducible repeat (first | refine blk_drewN ?_ _ | refine blk_drew ?_ | refine blk_alloc ?_ _)); exact BK104.out) hb)
      have n1_ := Aside0.mk (below_step (by repeat (first | (with_reducible first | exact HB.out | apply below_alloc | apply pw_below_drewN | apply below_drew1 | refine below_set ?_ GE104.out) | exact HB.out)) hb)
      clear BK104
      clear HB
      have BK104 := n0_
      have HB := n1_
      clear n0_ n1_
      (try clear hb)
      (try clear hb2)
      (try clear hk)
      (try clear hi)
      refine hK.out _ _ ⟨(blk_cell BK104.out 0).trans rfl, (blk_cell BK104.out 1).trans rfl, (blk_cell BK104.out 2).trans rfl, (blk_cell BK104.out 3).trans rfl, (blk_cell BK104.out 4).trans rfl, (blk_cell BK104.out 5).trans rfl, (blk_cell BK104.out 6).trans rfl, (blk_cell BK104.out 7).trans rfl, (blk_cell BK104.out 8).trans rfl, (blk_cell BK104.out 9).trans rfl, (blk_cell BK104.out 10).trans rfl, (blk_cell BK104.out 11).trans rfl⟩ (fun hHeld => ?_)
      clear hK K
      refine norm_ (a' := ?_) ?_ ?_
      rotate_left
      · show Act.put _ (some 7) _ = _
        simp only [Act.put, List.setIfInBounds_toArray, List.set_cons_zero, List.set_cons_succ, i64_w, i32_w]
        rfl
      refine one_ (i := 6) (N := some 9) #[true, true, true, true, true, true, true, false, false, false, false, false, false, false, false, false, false, false] rfl rfl (one_of HT_.out (by kernel_rfl)) (by decide) (fun K hK => ?_)
      refine goes_ Tryd.func10 (by kernel_rfl) rfl #[.agg #[.int .i64 a0_0, .int .i64 a0_1, .int .i64 a0_2, .int .i64 a0_3, .int .i64 a0_4, .int .i64 a0_5, .int .i64 a0_6, .int .i64 a0_7, .int .i64 a0_8, .int .i64 a0_9, .bool a0_10, .int .i64 a0_11]] (by rfl) rfl rfl (by (try simp only [List.map_toArray, List.map_cons, List.map_nil]); first | done | rfl | (simp only [List.length_drop, List.length_take]; rfl)) ?_
      with_reducible refine (knellref11_Right.calls a0_0 a0_1 a0_2 a0_3 a0_4 a0_5 a0_6 a0_7 a0_8 a0_9 a0_10 a0_11 t119 _ A6.out).mono ?_
      rintro e w25 ⟨rfl, hb⟩
      refine ⟨_, rfl, ?_⟩
      have n0_ := Aside0.mk (blk_below (g := gb104) (o := .cells #[.int .i64 a0_0, .int .i64 a0_1, .int .i64 a0_2, .int .i64 a0_3, .int .i64 a0_4, .int .i64 a0_5, .int .i64 a0_6, .int .i64 a0_7, .int .i64 a0_8, .int .i64 a0_9, .bool a0_10, .int .i64 a0_11] 25 (0, 0)) (by (with_reducible repeat (first | refine blk_drewN ?_ _ | refine blk_drew ?_ | refine blk_alloc ?_ _)); exact BK104.out) hb)
      have n1_ := Aside0.mk (below_step (by repeat (first | (with_reducible first | exact HB.out | apply below_alloc | apply pw_below_drewN | apply below_drew1 | refine below_set ?_ GE104.out) | exact HB.out)) hb)
      clear BK104
      clear HB
      have BK104 := n0_
      have HB := n1_
      clear n0_ n1_
      (try clear hb)
      (try clear hb2)
      (try clear hk)
      (try clear hi)
      refine hK.out _ _ ⟨(blk_cell BK104.out 0).trans rfl, (blk_cell BK104.out 1).trans rfl, (blk_cell BK104.out 2).trans rfl, (blk_cell BK104.out 3).trans rfl, (blk_cell BK104.out 4).trans rfl, (blk_cell BK104.out 5).trans rfl, (blk_cell BK104.out 6).trans rfl, (blk_cell BK104.out 7).trans rfl, (blk_cell BK104.out 8).trans rfl, (blk_cell BK104.out 9).trans rfl, (blk_cell BK104.out 10).trans rfl, (blk_cell BK104.out 11).trans rfl⟩ (fun hHeld => ?_)
      clear hK K
      refine norm_ (a' := ?_) ?_ ?_
      rotate_left
      · show Act.put _ (some 9) _ = _
        simp only [Act.put, List.setIfInBounds_toArray, List.set_cons_zero, List.set_cons_succ, i64_w, i32_w]
        rfl
      refine pure_ (i := 7) (N := some 10) (v := ?_) (a' := ?_) #[true, true, true, true, true, true, true, true, false, false, false, false, false, false, false, false, false, false] rfl rfl (any_of HT_.out (by kernel_rfl)) (fun _ _ _ h => h) (Or.inl ⟨by rfl, ?_⟩) ?_ ?_
      rotate_left
      · intro w'
        go_simp
        with_reducible rfl
      rotate_left
      · simp only [Act.put, List.setIfInBounds_toArray, List.set_cons_zero, List.set_cons_succ, i64_w, i32_w]
        rfl
      refine pure_ (i := 8) (N := some 11) (v := ?_) (a' := ?_) #[true, true, true, true, true, true, true, true, true, false, false, false, false, false, false, false, false, false] rfl rfl (any_of HT_.out (by kernel_rfl)) (fun _ _ _ h => h) (Or.inl ⟨by rfl, ?_⟩) ?_ ?_
      rotate_left
      · intro w'
        go_simp
        with_reducible rfl
      rotate_left
      · simp only [Act.put, List.setIfInBounds_toArray, List.set_cons_zero, List.set_cons_succ, i64_w, i32_w]
        rfl
      refine pure_ (i := 9) (N := some 12) (v := ?_) (a' := ?_) #[true, true, true, true, true, true, true, true, true, true, false, false, false, false, false, false, false, false] rfl rfl (any_of HT_.out (by kernel_rfl)) (fun _ _ _ h => h) (Or.inl ⟨by rfl, ?_⟩) ?_ ?_
      rotate_left
      · intro w'
        go_simp
        with_reducible rfl
      rotate_left
      · simp only [Act.put, List.setIfInBounds_toArray, List.set_cons_zero, List.set_cons_succ, i64_w, i32_w]
        rfl
      refine pure_ (i := 10) (N := some 13) (v := undef) (a' := ?_) #[true, true, true, true, true, true, true, true, true, true, true, false, false, false, false, false, false, false] rfl rfl (any_of HT_.out (by kernel_rfl)) (fun _ _ _ h => h) (Or.inr ⟨by rfl, rfl⟩) ?_ ?_
      rotate_left
      · simp only [Act.put, List.setIfInBounds_toArray, List.set_cons_zero, List.set_cons_succ, i64_w, i32_w]
        rfl
      refine pure_ (i := 11) (N := some 14) (v := undef) (a' := ?_) #[true, true, true, true, true, true, true, true, true, true, true, true, false, false, false, false, false, false] rfl rfl (any_of HT_.out (by kernel_rfl)) (fun _ _ _ h => h) (Or.inr ⟨by rfl, rfl⟩) ?_ ?_
      rotate_left
      · simp only [Act.put, List.setIfInBounds_toArray, List.set_cons_zero, List.set_cons_succ, i64_w, i32_w]
        rfl
      refine pure_ (i := 12) (N := some 15) (v := undef) (a' := ?_) #[true, true, true, true, true, true, true, true, true, true, true, true, true, false, false, false, false, false] rfl rfl (any_of HT_.out (by kernel_rfl)) (fun _ _ _ h => h) (Or.inr ⟨by rfl, rfl⟩) ?_ ?_
      rotate_left
      · simp only [Act.put, List.setIfInBounds_toArray, List.set_cons_zero, List.set_cons_succ, i64_w, i32_w]
        rfl
      refine pure_ (i := 13) (N := some 16) (v := undef) (a' := ?_) #[true, true, true, true, true, true, true, true, true, true, true, true, true, true, false, false, false, false] rfl rfl (any_of HT_.out (by kernel_rfl)) (fun _ _ _ h => h) (Or.inr ⟨by rfl, rfl⟩) ?_ ?_
      rotate_left
      · simp only [Act.put, List.setIfInBounds_toArray, List.set_cons_zero, List.set_cons_succ, i64_w, i32_w]
        rfl
      refine pure_ (i := 14) (N := some 17) (v := undef) (a' := ?_) #[true, true, true, true, true, true, true, true, true, true, true, true, true, true, true, false, false, false] rfl rfl (any_of HT_.out (by kernel_rfl)) (fun _ _ _ h => h) (Or.inr ⟨by rfl, rfl⟩) ?_ ?_
      rotate_left
      · simp only [Act.put, List.setIfInBounds_toArray, List.set_cons_zero, List.set_cons_succ, i64_w, i32_w]
        rfl
      refine pure_ (i := 15) (N := some 18) (v := undef) (a' := ?_) #[true, true, true, true, true, true, true, true, true, true, true, true, true, true, true, true, false, false] rfl rfl (any_of HT_.out (by kernel_rfl)) (fun _ _ _ h => h) (Or.inr ⟨by rfl, rfl⟩) ?_ ?_
      rotate_left
      · simp only [Act.put, List.setIfInBounds_toArray, List.set_cons_zero, List.set_cons_succ, i64_w, i32_w]
        rfl
      refine pure_ (i := 16) (N := some 19) (v := ?_) (a' := ?_) #[true, true, true, true, true, true, true, true, true, true, true, true, true, true, true, true, true, false] rfl rfl (any_of HT_.out (by kernel_rfl)) (fun _ _ _ h => h) (Or.inl ⟨by rfl, ?_⟩) ?_ ?_
      rotate_left
      · intro w'
        go_simp
        with_reducible rfl
      rotate_left
      · simp only [Act.put, List.setIfInBounds_toArray, List.set_cons_zero, List.set_cons_succ, i64_w, i32_w]
        rfl
      refine pure_ (i := 17) (N := some 2) (v := ?_) (a' := ?_) #[true, true, true, true, true, true, true, true, true, true, true, true, true, true, true, true, true, true] rfl rfl (any_of HT_.out (by kernel_rfl)) (fun _ _ _ h => h) (Or.inl ⟨by rfl, ?_⟩) ?_ ?_
      rotate_left
      · intro w'
        go_simp
        with_reducible rfl
      rotate_left
      · simp only [Act.put, List.setIfInBounds_toArray, List.set_cons_zero, List.set_cons_succ, i64_w, i32_w]
        rfl
      refine done_ (done_of HT_.out (by kernel_rfl)) ?_
      try go_wp2
      go_ret
      exact ⟨by first | rfl | (simp [errW_none, errW_some] <;> rfl) | (simp [*, errW_none, errW_some] <;> rfl), by repeat (first | (with_reducible first | exact HB.out | apply below_alloc | apply pw_below_drewN | apply below_drew1 | refine below_set ?_ GE104.out) | exact HB.out)⟩
  · replace c3 := Bool.eq_false_iff.mpr c3
    subst c3
    have H1 : (some false) = some r := by rw [if_neg (show ¬ (false = true) by decide)] at H; exact H
    clear H
    have H := H1
    clear H1
    obtain rfl := Option.some.inj H
    go_enter Tryd.func3, Tryd.ntmps3
    try go_wp2_with (first | ((with_reducible refine gate_dst (N := 1) rfl ?_); refine box_event ?hg (N := 1) ?hd (cs := #[.int .i64 a0_0, .int .i64 a0_1, .int .i64 a0_2, .int .i64 a0_3, .int .i64 a0_4, .int .i64 a0_5, .int .i64 a0_6, .int .i64 a0_7, .int .i64 a0_8, .int .i64 a0_9, .bool a0_10, .int .i64 a0_11]) (t := 25) ?hr ?_; (case hd => rfl); (case hg => rfl); (case hr => first | (go_simp; done) | (go_simp; rfl)); intro gb104 hg w26 hbox hb; have n0_ := Aside0.mk (below_step (by repeat (first | (with_reducible first | exact HB.out | apply below_alloc | apply pw_below_drewN | apply below_drew1) | exact HB.out)) hb); have n1_ := Aside0.mk (hbox); have n2_ := Aside0.mk ((by rw [hg]; exact (below_size (by repeat (first | (with_reducible first | exact HB.out | apply below_alloc | apply pw_below_drewN | apply below_drew1) | exact HB.out))) : w.heap.size ≤ gb104)); have n3_ := Aside0.mk ((by rw [hg]; exact (below_size (by repeat (first | (with_reducible first | exact HB.out | apply below_alloc | apply pw_below_drewN | apply below_drew1) | exact HB.out))) : w.heap.size ≤ gb104)); clear HB; have HB := n0_; have BK104 := n1_; have GW104 := n2_; have GE104 := n3_; clear n0_ n1_ n2_ n3_; clear hb hbox hg))
    have n0_ := Aside0.mk (blk_drew BK104.out)
    have n1_ := Aside0.mk (below_drew1 HB.out)
    clear BK104
    clear HB
    have BK104 := n0_
    have HB := n1_
    clear n0_ n1_
    refine start_ (n := 18) (S := fun w' => True) (ds := []) #[false, false, false, false, false, false, false, false, false, false, false, false, false, false, false, false, false, false] (by kernel_rfl) rfl rfl trivial (fun hHeld => ?_); refine with_tabW knelllaw11_EventTells.tab1 knelllaw11_EventTells.bits1 (fun HT_ HW_ => ?_)
    generalize w26.drew = w27 at BK104 HB hHeld ⊢
    refine one_ (i := 0) (N := some 3) #[true, false, false, false, false, false, false, false, false, false, false, false, false, false, false, false, false, false] rfl rfl (one_of HT_.out (by kernel_rfl)) (by decide) (fun K hK => ?_)
    refine goes_ Tryd.func7 (by kernel_rfl) rfl #[] (by rfl) rfl rfl (by (try simp only [List.map_toArray, List.map_cons, List.map_nil]); first | done | rfl | (simp only [List.length_drop, List.length_take]; rfl)) ?_
    with_reducible refine (knelllaw11_speaks.calls  false _ (Go.Proofs.YthniclbmpeklmaaDoor.Ev.Tab.below HTAB_.out (by repeat (first | (with_reducible first | exact HB.out | apply below_alloc | apply pw_below_drewN | apply below_drew1) | exact HB.out))) A2.out).mono ?_
    rintro e w28 ⟨rfl, hb⟩
    refine ⟨_, rfl, ?_⟩
    have n0_ := Aside0.mk (blk_below (g := gb104) (o := .cells #[.int .i64 a0_0, .int .i64 a0_1, .int .i64 a0_2, .int .i64 a0_3, .int .i64 a0_4, .int .i64 a0_5, .int .i64 a0_6, .int .i64 a0_7, .int .i64 a0_8, .int .i64 a0_9, .bool a0_10, .int .i64 a0_11] 25 (0, 0)) (by (with_reducible repeat (first | refine blk_drewN ?_ _ | refine blk_drew ?_ | refine blk_alloc ?_ _)); exact BK104.out) hb)
    have n1_ := Aside0.mk (below_step (by repeat (first | (with_reducible first | exact HB.out | apply below_alloc | apply pw_below_drewN | apply below_drew1 | refine below_set ?_ GE104.out) | exact HB.out)) hb)
    clear BK104
    clear HB
    have BK104 := n0_
    have HB := n1_
    clear n0_ n1_
    (try clear hb)
    (try clear hb2)
    (try clear hk)
    (try clear hi)
    refine hK.out _ _ trivial (fun hHeld => ?_)
    clear hK K
    refine norm_ (a' := ?_) ?_ ?_
    rotate_left
    · show Act.put _ (some 3) _ = _
      simp only [Act.put, List.setIfInBounds_toArray, List.set_cons_zero, List.set_cons_succ, i64_w, i32_w]
      rfl
    refine pure_ (i := 1) (N := some 4) (v := ?_) (a' := ?_) #[true, true, false, false, false, false, false, false, false, false, false, false, false, false, false, false, false, false] rfl rfl (any_of HT_.out (by kernel_rfl)) (fun _ _ _ h => h) (Or.inl ⟨by rfl, ?_⟩) ?_ ?_
    rotate_left
    · intro w'
      go_simp
      with_reducible rfl
    rotate_left
    · simp only [Act.put, List.setIfInBounds_toArray, List.set_cons_zero, List.set_cons_succ, i64_w, i32_w]
      rfl
    refine pure_ (i := 2) (N := some 5) (v := undef) (a' := ?_) #[true, true, true, false, false, false, false, false, false, false, false, false, false, false, false, false, false, false] rfl rfl (any_of HT_.out (by kernel_rfl)) (fun _ _ _ h => h) (Or.inr ⟨by rfl, rfl⟩) ?_ ?_
    rotate_left
    · simp only [Act.put, List.setIfInBounds_toArray, List.set_cons_zero, List.set_cons_succ, i64_w, i32_w]
      rfl
    refine pure_ (i := 3) (N := some 6) (v := undef) (a' := ?_) #[true, true, true, true, false, false, false, false, false, false, false, false, false, false, false, false, false, false] rfl rfl (any_of HT_.out (by kernel_rfl)) (fun _ _ _ h => h) (Or.inr ⟨by rfl, rfl⟩) ?_ ?_
    rotate_left
    · simp only [Act.put, List.setIfInBounds_toArray, List.set_cons_zero, List.set_cons_succ, i64_w, i32_w]
      rfl
    refine pure_ (i := 4) (N := some 7) (v := undef) (a' := ?_) #[true, true, true, true, true, false, false, false, false, false, false, false, false, false, false, false, false, false] rfl rfl (any_of HT_.out (by kernel_rfl)) (fun _ _ _ h => h) (Or.inr ⟨by rfl, rfl⟩) ?_ ?_
    rotate_left
    · simp only [Act.put, List.setIfInBounds_toArray, List.set_cons_zero, List.set_cons_succ, i64_w, i32_w]
      rfl
    refine pure_ (i := 5) (N := some 8) (v := undef) (a' := ?_) #[true, true, true, true, true, true, false, false, false, false, false, false, false, false, false, false, false, false] rfl rfl (any_of HT_.out (by kernel_rfl)) (fun _ _ _ h => h) (Or.inr ⟨by rfl, rfl⟩) ?_ ?_
    rotate_left
    · simp only [Act.put, List.setIfInBounds_toArray, List.set_cons_zero, List.set_cons_succ, i64_w, i32_w]
      rfl
    refine pure_ (i := 6) (N := some 9) (v := undef) (a' := ?_) #[true, true, true, true, true, true, true, false, false, false, false, false, false, false, false, false, false, false] rfl rfl (any_of HT_.out (by kernel_rfl)) (fun _ _ _ h => h) (Or.inr ⟨by rfl, rfl⟩) ?_ ?_
    rotate_left
    · simp only [Act.put, List.setIfInBounds_toArray, List.set_cons_zero, List.set_cons_succ, i64_w, i32_w]
      rfl
    refine pure_ (i := 7) (N := some 10) (v := undef) (a' := ?_) #[true, true, true, true, true, true, true, true, false, false, false, false, false, false, false, false, false, false] rfl rfl (any_of HT_.out (by kernel_rfl)) (fun _ _ _ h => h) (Or.inr ⟨by rfl, rfl⟩) ?_ ?_
    rotate_left
    · simp only [Act.put, List.setIfInBounds_toArray, List.set_cons_zero, List.set_cons_succ, i64_w, i32_w]
      rfl
    refine pure_ (i := 8) (N := some 11) (v := ?_) (a' := ?_) #[true, true, true, true, true, true, true, true, true, false, false, false, false, false, false, false, false, false] rfl rfl (any_of HT_.out (by kernel_rfl)) (fun _ _ _ h => h) (Or.inl ⟨by rfl, ?_⟩) ?_ ?_
    rotate_left
    · intro w'
      go_simp
      with_reducible rfl
    rotate_left
    · simp only [Act.put, List.setIfInBounds_toArray, List.set_cons_zero, List.set_cons_succ, i64_w, i32_w]
      rfl
    refine pure_ (i := 9) (N := some 12) (v := ?_) (a' := ?_) #[true, true, true, true, true, true, true, true, true, true, false, false, false, false, false, false, false, false] rfl rfl (any_of HT_.out (by kernel_rfl)) (fun _ _ _ h => h) (Or.inl ⟨by rfl, ?_⟩) ?_ ?_
    rotate_left
    · intro w'
      go_simp
      with_reducible rfl
    rotate_left
    · simp only [Act.put, List.setIfInBounds_toArray, List.set_cons_zero, List.set_cons_succ, i64_w, i32_w]
      rfl
    refine pure_ (i := 10) (N := some 13) (v := undef) (a' := ?_) #[true, true, true, true, true, true, true, true, true, true, true, false, false, false, false, false, false, false] rfl rfl (any_of HT_.out (by kernel_rfl)) (fun _ _ _ h => h) (Or.inr ⟨by rfl, rfl⟩) ?_ ?_
    rotate_left
    · simp only [Act.put, List.setIfInBounds_toArray, List.set_cons_zero, List.set_cons_succ, i64_w, i32_w]
      rfl
    refine pure_ (i := 11) (N := some 14) (v := undef) (a' := ?_) #[true, true, true, true, true, true, true, true, true, true, true, true, false, false, false, false, false, false] rfl rfl (any_of HT_.out (by kernel_rfl)) (fun _ _ _ h => h) (Or.inr ⟨by rfl, rfl⟩) ?_ ?_
    rotate_left
    · simp only [Act.put, List.setIfInBounds_toArray, List.set_cons_zero, List.set_cons_succ, i64_w, i32_w]
      rfl
    refine pure_ (i := 12) (N := some 15) (v := undef) (a' := ?_) #[true, true, true, true, true, true, true, true, true, true, true, true, true, false, false, false, false, false] rfl rfl (any_of HT_.out (by kernel_rfl)) (fun _ _ _ h => h) (Or.inr ⟨by rfl, rfl⟩) ?_ ?_
    rotate_left
    · simp only [Act.put, List.setIfInBounds_toArray, List.set_cons_zero, List.set_cons_succ, i64_w, i32_w]
      rfl
    refine pure_ (i := 13) (N := some 16) (v := undef) (a' := ?_) #[true, true, true, true, true, true, true, true, true, true, true, true, true, true, false, false, false, false] rfl rfl (any_of HT_.out (by kernel_rfl)) (fun _ _ _ h => h) (Or.inr ⟨by rfl, rfl⟩) ?_ ?_
    rotate_left
    · simp only [Act.put, List.setIfInBounds_toArray, List.set_cons_zero, List.set_cons_succ, i64_w, i32_w]
      rfl
    refine pure_ (i := 14) (N := some 17) (v := undef) (a' := ?_) #[true, true, true, true, true, true, true, true, true, true, true, true, true, true, true, false, false, false] rfl rfl (any_of HT_.out (by kernel_rfl)) (fun _ _ _ h => h) (Or.inr ⟨by rfl, rfl⟩) ?_ ?_
    rotate_left
    · simp only [Act.put, List.setIfInBounds_toArray, List.set_cons_zero, List.set_cons_succ, i64_w, i32_w]
      rfl
    refine pure_ (i := 15) (N := some 18) (v := undef) (a' := ?_) #[true, true, true, true, true, true, true, true, true, true, true, true, true, true, true, true, false, false] rfl rfl (any_of HT_.out (by kernel_rfl)) (fun _ _ _ h => h) (Or.inr ⟨by rfl, rfl⟩) ?_ ?_
    rotate_left
    · simp only [Act.put, List.setIfInBounds_toArray, List.set_cons_zero, List.set_cons_succ, i64_w, i32_w]
      rfl
    refine pure_ (i := 16) (N := some 19) (v := ?_) (a' := ?_) #[true, true, true, true, true, true, true, true, true, true, true, true, true, true, true, true, true, false] rfl rfl (any_of HT_.out (by kernel_rfl)) (fun _ _ _ h => h) (Or.inl ⟨by rfl, ?_⟩) ?_ ?_
    rotate_left
    · intro w'
      go_simp
      with_reducible rfl
    rotate_left
    · simp only [Act.put, List.setIfInBounds_toArray, List.set_cons_zero, List.set_cons_succ, i64_w, i32_w]
      rfl
    refine pure_ (i := 17) (N := some 2) (v := ?_) (a' := ?_) #[true, true, true, true, true, true, true, true, true, true, true, true, true, true, true, true, true, true] rfl rfl (any_of HT_.out (by kernel_rfl)) (fun _ _ _ h => h) (Or.inl ⟨by rfl, ?_⟩) ?_ ?_
    rotate_left
    · intro w'
      go_simp
      with_reducible rfl
    rotate_left
    · simp only [Act.put, List.setIfInBounds_toArray, List.set_cons_zero, List.set_cons_succ, i64_w, i32_w]
      rfl
    refine done_ (done_of HT_.out (by kernel_rfl)) ?_
    try go_wp2
    go_ret
    exact ⟨by first | rfl | (simp [errW_none, errW_some] <;> rfl) | (simp [*, errW_none, errW_some] <;> rfl), by repeat (first | (with_reducible first | exact HB.out | apply below_alloc | apply pw_below_drewN | apply below_drew1 | refine below_set ?_ GE104.out) | exact HB.out)⟩

end Go.Proofs.YthniclbmpeklmaaDoor.KEv
