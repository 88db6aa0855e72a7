/- What is proved: a part of the way to the statement ModelRefusesSaid: MoG, KJfx0, KJfx1, KJfx2, MoH, KJfx8, MoJ, MoI, MoK, Krow; no conditions. Put together by a program of this session (claimv.py). -/
import Derived.Test.YthniclbmpeklmaaProg
import Derived.Below
import Derived.Deep.Draws
import Derived.Deep.AppendLies
import Derived.Maps.AppendAt
import Derived.OwnWalk
import Derived.Laws.BytesArg
import Derived.Laws.MakeOwn
import Derived.Laws.OwnMore
import Derived.Deep.OwnRows
import Derived.Tactics
import Derived.Lib.ConvBytes
import Derived.Laws.Slices
import Derived.WalkKit
import Derived.KernelRfl
import Derived.RowKit3
import Derived.Deep.LoopGhost
import Derived.Deep.QuietTactic
import Derived.BigQuiet
import Derived.WideLaws
import Derived.Deep.DeepCutAuto
import Derived.Deep.CutBlock
import Derived.Deep.RegionHeld3
import Derived.Laws.Rows
import Derived.Lib.AppendStr
import Derived.ArgAppend
import Derived.Laws.IdiomCopy
import Derived.OrdersHeld
import Derived.Laws.BitsLemmas
import Derived.RowKit
import Derived.ChangeArms
import Derived.WideShapes
import Derived.OpenShut
import Derived.Deep.Slices
import Derived.Test.YthniclbmpeklmaaVmr2
section
namespace Go.Proofs.Ythniclbmpeklmaa.Mo
open Go.RowKit Go.Maps Go.Proofs.YthniclbmpeklmaaW.PrintWords Go.Proofs.YthniclbmpeklmaaW.PrintLast Go.Proofs.YthniclbmpeklmaaW.PrintMore Go.Proofs.Ythniclbmpeklmaa.Mp Go.Proofs.Ythniclbmpeklmaa.Ju
open Go.Proofs.Ythniclbmpeklmaa.Au (Ha RowIs flat_get flat_len haV lawH types_ne evA Ev Fr)
set_option linter.unusedVariables false
set_option linter.unusedSimpArgs false
def NonNeg (m : Md) : Prop := ∀ h d, m.fat h = some (1, d) → 0 ≤ d
theorem right_t {e : Ev} (h : rightJ e = true) (hk : e.k = 3) : 0 ≤ e.t := by
 unfold rightJ Ev.evRight at h
 rw [hk] at h
 simp at h
 omega
theorem nn_end {m : Md} (h : NonNeg m) (x : Ha) (s : Int) (hs : s ≠ 1) : NonNeg (m.end_ x s) := fun y d q => by
 rw [end_fat] at q
 by_cases e : y = x
 ·rw [if_pos e] at q; exact absurd (congrArg Prod.fst (Option.some.inj q)) hs
 ·rw [if_neg e] at q; exact h y d q
theorem nn_arm {m : Md} (h : NonNeg m) (x : Ha) {t : Int} (ht : 0 ≤ t) : NonNeg (m.arm x t) := fun y d q => by
 rw [arm_fat] at q
 by_cases e : y = x
 ·rw [if_pos e] at q
  have := congrArg Prod.snd (Option.some.inj q)
  simp at this
  omega
 ·rw [if_neg e] at q; exact h y d q
theorem do_fail {m : Md} {e : Ev} (h : (doF m e).2 ≠ 0) : (doF m e).1 = m := by
 unfold doF pointF at h ⊢
 repeat' split
 all_goals first
  | rfl
  | (simp_all; done)
structure MOk (m : Md) : Prop where
 inv : MInv m
 nn : NonNeg m
 lst : LstOk m
theorem MOk0 : MOk md0 := ⟨MInv0, fun h d q => by simp [md0] at q, fun x => by rfl⟩
theorem MOk.step {m : Md} (h : MOk m) {e : Ev} (hw : wfJ e) : MOk (doF m e).1 := by
 by_cases hz : (doF m e).2 = 0
 ·obtain ⟨hr, hd⟩ := did hz
  refine ⟨h.inv.did hr hw.1.2.1 hd, ?_, lst_do h.lst hw⟩
  generalize (doF m e).1 = m' at hd
  cases hd with
  | tick hk ht => exact h.nn
  | fire hk ha hd hc => exact nn_end h.nn _ _ (by decide)
  | cancel hk ho hy ha => exact nn_end h.nn _ _ (by decide)
  | same hk hm he => exact h.nn
  | start hk ho he hs => exact nn_arm h.nn _ (right_t hr hk)
  | rearm hk ho he ha h1 h2 => exact nn_arm (nn_end h.nn _ _ (by decide)) _ (right_t hr hk)
 ·rw [do_fail hz]; exact h
theorem MdIs.lower {w : World} {B B' b n m1 m2 : Nat} {m : Md} (h : MdIs w B b n m m1 m2) (hB : B' ≤ B) : MdIs w B' b n m m1 m2 := ⟨h.blk, h.mf, h.ml, Nat.le_trans hB h.hb, Nat.le_trans hB h.h1, Nat.le_trans hB h.h2, h.m12⟩
def spS : Ev := ⟨3, 0, 1, 0, 0, 0, 1, 1, 0, 0, false, 0⟩
def spF : Ev := ⟨4, 0, 0, 0, 1, 0, 0, 1, 0, 0, false, 0⟩
def spT : Ev := ⟨1, 0, 0, 0, 0, 0, 0, 1, 0, 0, false, 0⟩
def sp1 : Md := (doF md0 spS).1
def sp2 : Md := (doF sp1 spF).1
def sp3 : Md := (doF sp2 spT).1
def sp4 : Md := (doF sp3 spF).1
theorem sp_is : (doF md0 spS).2 = 0 ∧ (doF sp1 spF).2 = 6 ∧ (doF sp2 spT).2 = 0 ∧ (doF sp3 spF).2 = 0 ∧ (doF sp4 spF).2 = 6 := by decide +kernel
structure Mw (w W : World) (b m1 m2 n : Nat) (m : Md) : Prop where
 md : MdIs W w.heap.size b n m m1 m2
 bel : Below w.heap.size w W
 ok : MOk m
theorem Mw.step {w W W1 : World} {b m1 m2 n : Nat} {m : Md} (h : Mw w W b m1 m2 n m) (hb : Below W.heap.size W W1) : Mw w W1 b m1 m2 n m := ⟨h.md.below hb, below_step h.bel hb, h.ok⟩
theorem Mw.alloc {w W : World} {b m1 m2 n : Nat} {m : Md} (h : Mw w W b m1 m2 n m) (o : Obj) : Mw w (W.alloc o) b m1 m2 n m := h.step (below_alloc (Below.refl _ _) o)
theorem Mw.doing {w W : World} {b m1 m2 n : Nat} {m : Md} (h : Mw w W b m1 m2 n m) (hn : n + 1 ≤ 1000000) {e : Ev} (hw : wfJ e) :
  Calls Try.prog 43 #[pA b, .agg (evA e)] W fun r w' => r = .returned (.int .i64 (doF m e).2) ∧ Mw w w' b m1 m2 (n + 3) (doF m e).1 ∧ Fr W w' (mdS b m1 m2) := by
 refine (do_any e hw.1 hn h.ok.lst h.md).mono ?_
 rintro r w' ⟨h1, h2, h3⟩
 refine ⟨h1, ⟨h2.up (by omega), h.bel.trans (h3.below h.bel.size ?_), h.ok.step hw⟩, h3⟩
 rintro g (q | q | q)
 ·rw [q]; exact h.md.hb
 ·rw [q]; exact h.md.h1
 ·rw [q]; exact h.md.h2
theorem fr_cells {W W1 : World} {B b n m1 m2 g : Nat} {m : Md} {cs : Array Value} {t : TypeId} (hf : Fr W W1 (mdS b m1 m2)) (h : MdIs W B b n m m1 m2) (hg : W.heap[g]? = some (.cells cs t (0, 0))) (ht : t ≠ 125) : W1.heap[g]? = some (.cells cs t (0, 0)) := by
 refine hf.blk hg ?_
 rintro (q | q | q)
 ·exact types_ne hg h.blk ht q
 ·obtain ⟨z, _, hz⟩ := h.mf; obtain ⟨_, _, hq⟩ := hz.block; exact Go.Proofs.Ythniclbmpeklmaa.Au.map_ne hg hq q
 ·obtain ⟨z, _, hz⟩ := h.ml; obtain ⟨_, _, hq⟩ := hz.block; exact Go.Proofs.Ythniclbmpeklmaa.Au.map_ne hg hq q
set_option maxHeartbeats 8000000 in
set_option maxRecDepth 100000 in
theorem speaks12 (w : World) : Calls Try.prog 39 #[] w fun r w' => r = .returned (.bool true) ∧ Below w.heap.size w w' := by
 have hu2 := Try.underlying34
 have hu3 := Try.underlying54
 have CN := Aside0.mk (model_new w)
 have HR := Aside0.mk sp_is
 have D1 : Aside0 (∀ W b m1 m2, Mw w W b m1 m2 0 md0 → Calls Try.prog 43 #[pA b, .agg #[.int .i64 3, .int .i64 0, .int .i64 1, .int .i64 0, .int .i64 0, .int .i64 0, .int .i64 1, .int .i64 1, .int .i64 0, .int .i64 0, .bool false, .int .i64 0]] W fun r w' => r = .returned (.int .i64 0) ∧ Mw w w' b m1 m2 3 sp1 ∧ Fr W w' (mdS b m1 m2)) := ⟨fun W b m1 m2 h => by have q := h.doing (e := spS) (by omega) (wfJ_of (by decide)); rw [HR.out.1] at q; exact q⟩
 have D2 : Aside0 (∀ W b m1 m2, Mw w W b m1 m2 3 sp1 → Calls Try.prog 43 #[pA b, .agg #[.int .i64 4, .int .i64 0, .int .i64 0, .int .i64 0, .int .i64 1, .int .i64 0, .int .i64 0, .int .i64 1, .int .i64 0, .int .i64 0, .bool false, .int .i64 0]] W fun r w' => r = .returned (.int .i64 6) ∧ Mw w w' b m1 m2 6 sp2 ∧ Fr W w' (mdS b m1 m2)) := ⟨fun W b m1 m2 h => by have q := h.doing (e := spF) (by omega) (wfJ_of (by decide)); rw [HR.out.2.1] at q; exact q⟩
 have D3 : Aside0 (∀ W b m1 m2, Mw w W b m1 m2 6 sp2 → Calls Try.prog 43 #[pA b, .agg #[.int .i64 1, .int .i64 0, .int .i64 0, .int .i64 0, .int .i64 0, .int .i64 0, .int .i64 0, .int .i64 1, .int .i64 0, .int .i64 0, .bool false, .int .i64 0]] W fun r w' => r = .returned (.int .i64 0) ∧ Mw w w' b m1 m2 9 sp3 ∧ Fr W w' (mdS b m1 m2)) := ⟨fun W b m1 m2 h => by have q := h.doing (e := spT) (by omega) (wfJ_of (by decide)); rw [HR.out.2.2.1] at q; exact q⟩
 have D4 : Aside0 (∀ W b m1 m2, Mw w W b m1 m2 9 sp3 → Calls Try.prog 43 #[pA b, .agg #[.int .i64 4, .int .i64 0, .int .i64 0, .int .i64 0, .int .i64 1, .int .i64 0, .int .i64 0, .int .i64 1, .int .i64 0, .int .i64 0, .bool false, .int .i64 0]] W fun r w' => r = .returned (.int .i64 0) ∧ Mw w w' b m1 m2 12 sp4 ∧ Fr W w' (mdS b m1 m2)) := ⟨fun W b m1 m2 h => by have q := h.doing (e := spF) (by omega) (wfJ_of (by decide)); rw [HR.out.2.2.2.1] at q; exact q⟩
 have D5 : Aside0 (∀ W b m1 m2, Mw w W b m1 m2 12 sp4 → Calls Try.prog 43 #[pA b, .agg #[.int .i64 4, .int .i64 0, .int .i64 0, .int .i64 0, .int .i64 1, .int .i64 0, .int .i64 0, .int .i64 1, .int .i64 0, .int .i64 0, .bool false, .int .i64 0]] W fun r w' => r = .returned (.int .i64 6) ∧ Below w.heap.size w w') := ⟨fun W b m1 m2 h => by have q := h.doing (e := spF) (by omega) (wfJ_of (by decide)); rw [HR.out.2.2.2.2] at q; exact q.mono fun _ _ h => ⟨h.1, h.2.1.bel⟩⟩
 go_enter Try.func39, Try.ntmps39
 go_upto_region 4 with (go_at_call 40; (with_reducible refine CN.out.mono ?_); rintro r w2 ⟨rfl, hmd, hb⟩; have H2 := Aside0.mk (show Mw w w2 (w.heap.size + 1 + 1) w.heap.size (w.heap.size + 1) 0 md0 from ⟨hmd, hb, MOk0⟩); clear hmd hb)
 have H3 := Aside0.mk (And.intro (H2.out.alloc (.cells #[.int .i64 0, .int .i64 1] 34)) (blk_new w2 (.cells #[.int .i64 0, .int .i64 1] 34)))
 have hl := blk_lt H3.out.2
 have hc := fun i => blk_cell H3.out.2 i
 go_upto_region 6 with (go_at_call 43; (with_reducible refine (D1.out _ _ _ _ H3.out.1).mono ?_); rintro r w3 ⟨rfl, hm, hf⟩; have H4 := Aside0.mk (And.intro hm (fr_cells hf H3.out.1.md H3.out.2 (by decide))); clear hm hf hl hc; have hl := blk_lt H4.out.2; have hc := fun i => blk_cell H4.out.2 i)
 have H5 := Aside0.mk (And.intro (H4.out.1.alloc (.cells #[.int .i64 4, .int .i64 0, .int .i64 0, .int .i64 0, .int .i64 1, .int .i64 0, .int .i64 0, .int .i64 1, .int .i64 0, .int .i64 0, .bool false, .int .i64 0] 54)) (blk_new w3 (.cells #[.int .i64 4, .int .i64 0, .int .i64 0, .int .i64 0, .int .i64 1, .int .i64 0, .int .i64 0, .int .i64 1, .int .i64 0, .int .i64 0, .bool false, .int .i64 0] 54)))
 go_upto_region 7 with (fail)
 clear hl hc
 have hl := blk_lt H5.out.2
 have hc := fun i => blk_cell H5.out.2 i
 go_upto_region 8 with (go_at_call 43; (with_reducible refine (D2.out _ _ _ _ H5.out.1).mono ?_); rintro r w4 ⟨rfl, hm, hf⟩; have H6 := Aside0.mk (And.intro hm (fr_cells hf H5.out.1.md H5.out.2 (by decide))); clear hm hf hl hc)
 go_upto_region 9 with (go_at_call 43; (with_reducible refine (D3.out _ _ _ _ H6.out.1).mono ?_); rintro r w5 ⟨rfl, hm, hf⟩; have H7 := Aside0.mk (And.intro hm (fr_cells hf H6.out.1.md H6.out.2 (by decide))); clear hm hf)
 have hl := blk_lt H7.out.2
 have hc := fun i => blk_cell H7.out.2 i
 go_wp2_with (first
  | (go_at_call 43; (with_reducible refine (D4.out _ _ _ _ H7.out.1).mono ?_); rintro r w6 ⟨rfl, hm, hf⟩; have H8 := Aside0.mk (And.intro hm (fr_cells hf H7.out.1.md H7.out.2 (by decide))); clear hm hf hl hc H7; have hl := blk_lt H8.out.2; have hc := fun i => blk_cell H8.out.2 i)
  | (go_at_call 43; (with_reducible refine (D5.out _ _ _ _ H8.out.1).mono ?_); rintro r w7 ⟨rfl, hb⟩; have H9 := Aside0.mk hb; clear hb))
 go_ret
 exact ⟨rfl, H9.out⟩
end Go.Proofs.Ythniclbmpeklmaa.Mo
end
section
namespace Go.Proofs.Ythniclbmpeklmaa.KJf
open Go.RowKit Go.Proofs.YthniclbmpeklmaaW.PrintWords Go.Proofs.YthniclbmpeklmaaW.PrintLast Go.Proofs.YthniclbmpeklmaaW.PrintMore
attribute [local go_sem] max2_int min2_int max_two min_two max_three min_three max_four min_four   -- for this text's walks alone
set_option linter.unusedVariables false
set_option linter.unusedSimpArgs false
def errW : Option Int → Value
 | none => .nilIface
 | some c => .iface 0 (.int .i64 c)
theorem errW_none : errW none = .nilIface := rfl
theorem errW_some (c : Int) : errW (some c) = .iface 0 (.int .i64 c) := rfl
structure S36 where
 f0 : Int
 f1 : Int
def z36 : S36 := ⟨(0 : Int), (0 : Int)⟩
def k36 : Kd S36 := Kd.iso (Kd.pair (Kd.int .i64) (Kd.int .i64)) (fun x : S36 => (x.f0, x.f1))
theorem k36_open {w : World} {x : S36} {cs : List Value} (h : k36.K w x cs) : cs = [.int .i64 x.f0, .int .i64 x.f1] := by
 obtain ⟨_, _, rfl, rfl, rfl⟩ := h
 exact rfl
theorem k36_mk (w : World) (x : S36)  : k36.K w x [.int .i64 x.f0, .int .i64 x.f1] := ⟨[.int .i64 x.f0], [.int .i64 x.f1], rfl, rfl, rfl⟩
structure S50 where
 f0 : Int
 f1 : Int
 f2 : Int
 f3 : S36
 f4 : S36
 f5 : Int
 f6 : Int
 f7 : Int
 f8 : Bool
 f9 : Int
def z50 : S50 := ⟨(0 : Int), (0 : Int), (0 : Int), z36, z36, (0 : Int), (0 : Int), (0 : Int), false, (0 : Int)⟩
def k50 : Kd S50 := Kd.iso (Kd.pair (Kd.int .i64) (Kd.pair (Kd.int .i64) (Kd.pair (Kd.int .i64) (Kd.pair k36 (Kd.pair k36 (Kd.pair (Kd.int .i64) (Kd.pair (Kd.int .i64) (Kd.pair (Kd.int .i64) (Kd.pair Kd.bool (Kd.int .i64)))))))))) (fun x : S50 => (x.f0, x.f1, x.f2, x.f3, x.f4, x.f5, x.f6, x.f7, x.f8, x.f9))
theorem k50_open {w : World} {x : S50} {cs : List Value} (h : k50.K w x cs) : cs = [.int .i64 x.f0, .int .i64 x.f1, .int .i64 x.f2, .int .i64 x.f3.f0, .int .i64 x.f3.f1, .int .i64 x.f4.f0, .int .i64 x.f4.f1, .int .i64 x.f5, .int .i64 x.f6, .int .i64 x.f7, .bool x.f8, .int .i64 x.f9] := by
 obtain ⟨_, _, rfl, rfl, ⟨_, _, rfl, rfl, ⟨_, _, rfl, rfl, ⟨_, _, rfl, s3, ⟨_, _, rfl, s5, ⟨_, _, rfl, rfl, ⟨_, _, rfl, rfl, ⟨_, _, rfl, rfl, ⟨_, _, rfl, rfl, rfl⟩⟩⟩⟩⟩⟩⟩⟩⟩ := h
 obtain rfl := k36_open s3
 obtain rfl := k36_open s5
 exact rfl
theorem k50_mk (w : World) (x : S50)  : k50.K w x [.int .i64 x.f0, .int .i64 x.f1, .int .i64 x.f2, .int .i64 x.f3.f0, .int .i64 x.f3.f1, .int .i64 x.f4.f0, .int .i64 x.f4.f1, .int .i64 x.f5, .int .i64 x.f6, .int .i64 x.f7, .bool x.f8, .int .i64 x.f9] := ⟨[.int .i64 x.f0], [.int .i64 x.f1, .int .i64 x.f2, .int .i64 x.f3.f0, .int .i64 x.f3.f1, .int .i64 x.f4.f0, .int .i64 x.f4.f1, .int .i64 x.f5, .int .i64 x.f6, .int .i64 x.f7, .bool x.f8, .int .i64 x.f9], rfl, rfl, ⟨[.int .i64 x.f1], [.int .i64 x.f2, .int .i64 x.f3.f0, .int .i64 x.f3.f1, .int .i64 x.f4.f0, .int .i64 x.f4.f1, .int .i64 x.f5, .int .i64 x.f6, .int .i64 x.f7, .bool x.f8, .int .i64 x.f9], rfl, rfl, ⟨[.int .i64 x.f2], [.int .i64 x.f3.f0, .int .i64 x.f3.f1, .int .i64 x.f4.f0, .int .i64 x.f4.f1, .int .i64 x.f5, .int .i64 x.f6, .int .i64 x.f7, .bool x.f8, .int .i64 x.f9], rfl, rfl, ⟨[.int .i64 x.f3.f0, .int .i64 x.f3.f1], [.int .i64 x.f4.f0, .int .i64 x.f4.f1, .int .i64 x.f5, .int .i64 x.f6, .int .i64 x.f7, .bool x.f8, .int .i64 x.f9], rfl, (k36_mk w x.f3 ), ⟨[.int .i64 x.f4.f0, .int .i64 x.f4.f1], [.int .i64 x.f5, .int .i64 x.f6, .int .i64 x.f7, .bool x.f8, .int .i64 x.f9], rfl, (k36_mk w x.f4 ), ⟨[.int .i64 x.f5], [.int .i64 x.f6, .int .i64 x.f7, .bool x.f8, .int .i64 x.f9], rfl, rfl, ⟨[.int .i64 x.f6], [.int .i64 x.f7, .bool x.f8, .int .i64 x.f9], rfl, rfl, ⟨[.int .i64 x.f7], [.bool x.f8, .int .i64 x.f9], rfl, rfl, ⟨[.bool x.f8], [.int .i64 x.f9], rfl, rfl, rfl⟩⟩⟩⟩⟩⟩⟩⟩⟩
def rd_T50 (xs : List S50) (i : Int) : S50 := xs.getD i.toNat z50
theorem at_T50 {w : World} {A : Option Addr} {n : Nat} {xs : List S50} (h : Kd.C k50 w A n xs) (i : Int) (h0 : 0 ≤ i) (h1 : i < n) : ∃ ad , A = some ad ∧ w.cell? (ad.add (i.toNat * 12)) = some (.int .i64 (rd_T50 xs i).f0) ∧ w.cell? ⟨(ad.add (i.toNat * 12)).block, (ad.add (i.toNat * 12)).off + 1, none⟩ = some (.int .i64 (rd_T50 xs i).f1) ∧ w.cell? ⟨(ad.add (i.toNat * 12)).block, (ad.add (i.toNat * 12)).off + 2, none⟩ = some (.int .i64 (rd_T50 xs i).f2) ∧ w.cell? ⟨(ad.add (i.toNat * 12)).block, (ad.add (i.toNat * 12)).off + 3, none⟩ = some (.int .i64 (rd_T50 xs i).f3.f0) ∧ w.cell? ⟨(ad.add (i.toNat * 12)).block, (ad.add (i.toNat * 12)).off + 4, none⟩ = some (.int .i64 (rd_T50 xs i).f3.f1) ∧ w.cell? ⟨(ad.add (i.toNat * 12)).block, (ad.add (i.toNat * 12)).off + 5, none⟩ = some (.int .i64 (rd_T50 xs i).f4.f0) ∧ w.cell? ⟨(ad.add (i.toNat * 12)).block, (ad.add (i.toNat * 12)).off + 6, none⟩ = some (.int .i64 (rd_T50 xs i).f4.f1) ∧ w.cell? ⟨(ad.add (i.toNat * 12)).block, (ad.add (i.toNat * 12)).off + 7, none⟩ = some (.int .i64 (rd_T50 xs i).f5) ∧ w.cell? ⟨(ad.add (i.toNat * 12)).block, (ad.add (i.toNat * 12)).off + 8, none⟩ = some (.int .i64 (rd_T50 xs i).f6) ∧ w.cell? ⟨(ad.add (i.toNat * 12)).block, (ad.add (i.toNat * 12)).off + 9, none⟩ = some (.int .i64 (rd_T50 xs i).f7) ∧ w.cell? ⟨(ad.add (i.toNat * 12)).block, (ad.add (i.toNat * 12)).off + 10, none⟩ = some (.bool (rd_T50 xs i).f8) ∧ w.cell? ⟨(ad.add (i.toNat * 12)).block, (ad.add (i.toNat * 12)).off + 11, none⟩ = some (.int .i64 (rd_T50 xs i).f9) := by
 obtain ⟨ad, c, e, _, hK, hc0⟩ := Kd.C_get h z50 i h0 h1
 have hc : ∀ j u, c[j]? = some u → w.cell? (ad.add (i.toNat * 12 + j)) = some u := hc0
 obtain rfl := k50_open hK
 exact ⟨ad, e, hc 0 _ rfl, by rw [← add_field _ _ 1 (by omega)]; exact hc 1 _ rfl, by rw [← add_field _ _ 2 (by omega)]; exact hc 2 _ rfl, by rw [← add_field _ _ 3 (by omega)]; exact hc 3 _ rfl, by rw [← add_field _ _ 4 (by omega)]; exact hc 4 _ rfl, by rw [← add_field _ _ 5 (by omega)]; exact hc 5 _ rfl, by rw [← add_field _ _ 6 (by omega)]; exact hc 6 _ rfl, by rw [← add_field _ _ 7 (by omega)]; exact hc 7 _ rfl, by rw [← add_field _ _ 8 (by omega)]; exact hc 8 _ rfl, by rw [← add_field _ _ 9 (by omega)]; exact hc 9 _ rfl, by rw [← add_field _ _ 10 (by omega)]; exact hc 10 _ rfl, by rw [← add_field _ _ 11 (by omega)]; exact hc 11 _ rfl⟩
end Go.Proofs.Ythniclbmpeklmaa.KJf
end
section
namespace Go.Proofs.Ythniclbmpeklmaa.KJf
open Go.RowKit Go.Proofs.YthniclbmpeklmaaW.PrintWords Go.Proofs.YthniclbmpeklmaaW.PrintLast Go.Proofs.YthniclbmpeklmaaW.PrintMore
attribute [local go_sem] max2_int min2_int max_two min_two max_three min_three max_four min_four   -- for this text's walks alone
set_option linter.unusedVariables false
set_option linter.unusedSimpArgs false
theorem eqA36 (d : Nat) (w : World) (x0 y0 : Int) (x1 y1 : Int) :
  (Op.equalIn (d + 2) 36 (.agg #[.int .i64 x0, .int .i64 x1]) (.agg #[.int .i64 y0, .int .i64 y1])).run Try.prog w = .ok (x0 == y0 && (x1 == y1)) w := by
 refine eqA_of Try.underlying36 (by kernel_rfl) ?_
 refine eqf_cons (by rfl) (by go_simp; rfl) (by go_simp; rfl) (by go_simp) ?_
 exact eqf_last (by rfl) (by go_simp; rfl) (by go_simp; rfl) (by go_simp)
end Go.Proofs.Ythniclbmpeklmaa.KJf
end
section
namespace Go.Proofs.Ythniclbmpeklmaa.KJf
open Go.RowKit Go.Proofs.YthniclbmpeklmaaW.PrintWords Go.Proofs.YthniclbmpeklmaaW.PrintLast Go.Proofs.YthniclbmpeklmaaW.PrintMore
attribute [local go_sem] max2_int min2_int max_two min_two max_three min_three max_four min_four   -- for this text's walks alone
set_option linter.unusedVariables false
set_option linter.unusedSimpArgs false
attribute [local go_sem high] eqA36
def knelllaw11_Of.f (a0_0 : Int) (a0_1 : Int) (a0_2 : Int) (a0_3 : Int) (a0_4 : Int) (a0_5 : Int) (a0_6 : Int) (a0_7 : Int) (a0_8 : Int) (a0_9 : Int) (a0_10 : Bool) (a0_11 : Int) : Option (Int × Int × Int × Int × Int × Int × Int × Int × Int × Int × Bool × Int) := some (a0_0, a0_1, a0_2, a0_3, a0_4, a0_5, a0_6, a0_7, a0_8, a0_9, a0_10, a0_11)
set_option maxHeartbeats 8000000 in
set_option maxRecDepth 100000 in
theorem knelllaw11_Of.calls (a0_0 : Int) (a0_1 : Int) (a0_2 : Int) (a0_3 : Int) (a0_4 : Int) (a0_5 : Int) (a0_6 : Int) (a0_7 : Int) (a0_8 : Int) (a0_9 : Int) (a0_10 : Bool) (a0_11 : Int) (r1 : Int) (r2 : Int) (r3 : Int) (r4 : Int) (r5 : Int) (r6 : Int) (r7 : Int) (r8 : Int) (r9 : Int) (r10 : Int) (r11 : Bool) (r12 : Int) (w : World) (h : knelllaw11_Of.f a0_0 a0_1 a0_2 a0_3 a0_4 a0_5 a0_6 a0_7 a0_8 a0_9 a0_10 a0_11 = some (r1, r2, r3, r4, r5, r6, r7, r8, r9, r10, r11, r12)) :
  Calls Try.prog 30 #[.agg #[.int .i64 a0_0, .int .i64 a0_1, .int .i64 a0_2, .int .i64 a0_3, .int .i64 a0_4, .int .i64 a0_5, .int .i64 a0_6, .int .i64 a0_7, .int .i64 a0_8, .int .i64 a0_9, .bool a0_10, .int .i64 a0_11]] w fun e w' => e = .returned (.agg #[.int .i64 r1, .int .i64 r2, .int .i64 r3, .int .i64 r4, .int .i64 r5, .int .i64 r6, .int .i64 r7, .int .i64 r8, .int .i64 r9, .int .i64 r10, .bool r11, .int .i64 r12]) ∧ Below w.heap.size w w' := by
 have hu50 := Try.underlying50
 have hu54 := Try.underlying54
 have hu34 := Try.underlying34
 have HB := Aside0.mk (Below.refl w.heap.size w)
 have H : (some (a0_0, a0_1, a0_2, a0_3, a0_4, a0_5, a0_6, a0_7, a0_8, a0_9, a0_10, a0_11)) = some (r1, r2, r3, r4, r5, r6, r7, r8, r9, r10, r11, r12) := h
 clear h
 simp only [Option.some.injEq, Prod.mk.injEq] at H
 obtain ⟨rfl, rfl, rfl, rfl, rfl, rfl, rfl, rfl, rfl, rfl, rfl, rfl⟩ := H
 go_enter Try.func30, Try.ntmps30
 go_wp2_with (first | ((with_reducible refine gate_dst (N := 1) rfl ?_); refine box_event ?hg (N := 1) ?hd (cs := #[.int .i64 a0_0, .int .i64 a0_1, .int .i64 a0_2, .int .i64 a0_3, .int .i64 a0_4, .int .i64 a0_5, .int .i64 a0_6, .int .i64 a0_7, .int .i64 a0_8, .int .i64 a0_9, .bool a0_10, .int .i64 a0_11]) (t := 50) ?hr ?_; (case hd => rfl); (case hg => rfl); (case hr => first | (go_simp; done) | (go_simp; rfl)); intro gb101 hg w2 hbox hb; have n0_ := Aside0.mk (below_step (by repeat (first | (with_reducible first | exact HB.out | apply below_alloc | apply pw_below_drewN | apply below_drew1) | exact HB.out)) hb); have n1_ := Aside0.mk (hbox); have n2_ := Aside0.mk ((by rw [hg]; exact (below_size (by repeat (first | (with_reducible first | exact HB.out | apply below_alloc | apply pw_below_drewN | apply below_drew1) | exact HB.out))) : w.heap.size ≤ gb101)); have n3_ := Aside0.mk ((by rw [hg]; exact (below_size (by repeat (first | (with_reducible first | exact HB.out | apply below_alloc | apply pw_below_drewN | apply below_drew1) | exact HB.out))) : w.heap.size ≤ gb101)); clear HB; have HB := n0_; have BK101 := n1_; have GW101 := n2_; have GE101 := n3_; clear n0_ n1_ n2_ n3_; clear hb hbox hg) | ((with_reducible refine gate_dst (N := 2) rfl ?_); refine box_event ?hg (N := 2) ?hd (cs := #[.int .i64 0, .int .i64 0, .int .i64 0, .int .i64 0, .int .i64 0, .int .i64 0, .int .i64 0, .int .i64 0, .int .i64 0, .int .i64 0, .bool false, .int .i64 0]) (t := 54) ?hr ?_; (case hd => rfl); (case hg => rfl); (case hr => first | (go_simp; done) | (go_simp; rfl)); intro gb102 hg w3 hbox hb; have n0_ := Aside0.mk (blk_below (g := gb101) (o := .cells #[.int .i64 a0_0, .int .i64 a0_1, .int .i64 a0_2, .int .i64 a0_3, .int .i64 a0_4, .int .i64 a0_5, .int .i64 a0_6, .int .i64 a0_7, .int .i64 a0_8, .int .i64 a0_9, .bool a0_10, .int .i64 a0_11] 50 (0, 0)) (by (with_reducible repeat (first | refine blk_drewN ?_ _ | refine blk_drew ?_ | refine blk_alloc ?_ _)); exact BK101.out) hb); have n1_ := Aside0.mk (below_step (by repeat (first | (with_reducible first | exact HB.out | apply below_alloc | apply pw_below_drewN | apply below_drew1 | refine below_set ?_ GE101.out) | exact HB.out)) hb); have n2_ := Aside0.mk (hbox); have n3_ := Aside0.mk ((by rw [hg]; exact (below_size (by repeat (first | (with_reducible first | exact HB.out | apply below_alloc | apply pw_below_drewN | apply below_drew1 | refine below_set ?_ GE101.out) | exact HB.out))) : w.heap.size ≤ gb102)); have n4_ := Aside0.mk ((by rw [hg]; exact (below_size (by repeat (first | (with_reducible first | exact HB.out | apply below_alloc | apply pw_below_drewN | apply below_drew1 | refine below_set ?_ GE101.out) | exact HB.out))) : w.heap.size ≤ gb102)); have n5_ := Aside0.mk ((by rw [hg]; exact Nat.ne_of_lt (blk_lt (g := gb101) (o := .cells #[.int .i64 a0_0, .int .i64 a0_1, .int .i64 a0_2, .int .i64 a0_3, .int .i64 a0_4, .int .i64 a0_5, .int .i64 a0_6, .int .i64 a0_7, .int .i64 a0_8, .int .i64 a0_9, .bool a0_10, .int .i64 a0_11] 50 (0, 0)) (by (with_reducible repeat (first | refine blk_drewN ?_ _ | refine blk_drew ?_ | refine blk_alloc ?_ _)); exact BK101.out)) : gb101 ≠ gb102)); have n6_ := Aside0.mk ((by rw [hg]; exact Nat.ne_of_gt (blk_lt (g := gb101) (o := .cells #[.int .i64 a0_0, .int .i64 a0_1, .int .i64 a0_2, .int .i64 a0_3, .int .i64 a0_4, .int .i64 a0_5, .int .i64 a0_6, .int .i64 a0_7, .int .i64 a0_8, .int .i64 a0_9, .bool a0_10, .int .i64 a0_11] 50 (0, 0)) (by (with_reducible repeat (first | refine blk_drewN ?_ _ | refine blk_drew ?_ | refine blk_alloc ?_ _)); exact BK101.out)) : gb102 ≠ gb101)); clear BK101; clear HB; have BK101 := n0_; have HB := n1_; have BK102 := n2_; have GW102 := n3_; have GE102 := n4_; have NB101_102 := n5_; have NB102_101 := n6_; clear n0_ n1_ n2_ n3_ n4_ n5_ n6_; clear hb hbox hg; have hnb4 := NB101_102.out; have hnc4 := NB102_101.out; have hcz5_0 : w3.cell? ⟨gb101, 0, none⟩ = some (.int .i64 a0_0) := (blk_cell BK101.out 0).trans rfl; have hcz5_1 : w3.cell? ⟨gb101, 1, none⟩ = some (.int .i64 a0_1) := (blk_cell BK101.out 1).trans rfl; have hcz5_2 : w3.cell? ⟨gb101, 2, none⟩ = some (.int .i64 a0_2) := (blk_cell BK101.out 2).trans rfl; have hcz5_3 : w3.cell? ⟨gb101, 3, none⟩ = some (.int .i64 a0_3) := (blk_cell BK101.out 3).trans rfl; have hcz5_4 : w3.cell? ⟨gb101, 4, none⟩ = some (.int .i64 a0_4) := (blk_cell BK101.out 4).trans rfl; have hcz5_5 : w3.cell? ⟨gb101, 5, none⟩ = some (.int .i64 a0_5) := (blk_cell BK101.out 5).trans rfl; have hcz5_6 : w3.cell? ⟨gb101, 6, none⟩ = some (.int .i64 a0_6) := (blk_cell BK101.out 6).trans rfl; have hcz5_7 : w3.cell? ⟨gb101, 7, none⟩ = some (.int .i64 a0_7) := (blk_cell BK101.out 7).trans rfl; have hcz5_8 : w3.cell? ⟨gb101, 8, none⟩ = some (.int .i64 a0_8) := (blk_cell BK101.out 8).trans rfl; have hcz5_9 : w3.cell? ⟨gb101, 9, none⟩ = some (.int .i64 a0_9) := (blk_cell BK101.out 9).trans rfl; have hcz5_10 : w3.cell? ⟨gb101, 10, none⟩ = some (.bool a0_10) := (blk_cell BK101.out 10).trans rfl; have hcz5_11 : w3.cell? ⟨gb101, 11, none⟩ = some (.int .i64 a0_11) := (blk_cell BK101.out 11).trans rfl; have hfz5_0 := blk_frozen BK101.out 0; have hfz5_1 := blk_frozen BK101.out 1; have hfz5_2 := blk_frozen BK101.out 2; have hfz5_3 := blk_frozen BK101.out 3; have hfz5_4 := blk_frozen BK101.out 4; have hfz5_5 := blk_frozen BK101.out 5; have hfz5_6 := blk_frozen BK101.out 6; have hfz5_7 := blk_frozen BK101.out 7; have hfz5_8 := blk_frozen BK101.out 8; have hfz5_9 := blk_frozen BK101.out 9; have hfz5_10 := blk_frozen BK101.out 10; have hfz5_11 := blk_frozen BK101.out 11; have hcz6_0 : w3.cell? ⟨gb102, 0, none⟩ = some (.int .i64 0) := (blk_cell BK102.out 0).trans rfl; have hcz6_1 : w3.cell? ⟨gb102, 1, none⟩ = some (.int .i64 0) := (blk_cell BK102.out 1).trans rfl; have hcz6_2 : w3.cell? ⟨gb102, 2, none⟩ = some (.int .i64 0) := (blk_cell BK102.out 2).trans rfl; have hcz6_3 : w3.cell? ⟨gb102, 3, none⟩ = some (.int .i64 0) := (blk_cell BK102.out 3).trans rfl; have hcz6_4 : w3.cell? ⟨gb102, 4, none⟩ = some (.int .i64 0) := (blk_cell BK102.out 4).trans rfl; have hcz6_5 : w3.cell? ⟨gb102, 5, none⟩ = some (.int .i64 0) := (blk_cell BK102.out 5).trans rfl; have hcz6_6 : w3.cell? ⟨gb102, 6, none⟩ = some (.int .i64 0) := (blk_cell BK102.out 6).trans rfl; have hcz6_7 : w3.cell? ⟨gb102, 7, none⟩ = some (.int .i64 0) := (blk_cell BK102.out 7).trans rfl; have hcz6_8 : w3.cell? ⟨gb102, 8, none⟩ = some (.int .i64 0) := (blk_cell BK102.out 8).trans rfl; have hcz6_9 : w3.cell? ⟨gb102, 9, none⟩ = some (.int .i64 0) := (blk_cell BK102.out 9).trans rfl; have hcz6_10 : w3.cell? ⟨gb102, 10, none⟩ = some (.bool false) := (blk_cell BK102.out 10).trans rfl; have hcz6_11 : w3.cell? ⟨gb102, 11, none⟩ = some (.int .i64 0) := (blk_cell BK102.out 11).trans rfl; have hfz6_0 := blk_frozen BK102.out 0; have hfz6_1 := blk_frozen BK102.out 1; have hfz6_2 := blk_frozen BK102.out 2; have hfz6_3 := blk_frozen BK102.out 3; have hfz6_4 := blk_frozen BK102.out 4; have hfz6_5 := blk_frozen BK102.out 5; have hfz6_6 := blk_frozen BK102.out 6; have hfz6_7 := blk_frozen BK102.out 7; have hfz6_8 := blk_frozen BK102.out 8; have hfz6_9 := blk_frozen BK102.out 9; have hfz6_10 := blk_frozen BK102.out 10; have hfz6_11 := blk_frozen BK102.out 11))
 refine bodyPost_ret (results_cell_row rfl _ _ gb102 54 #[.int .i64 a0_0, .int .i64 a0_1, .int .i64 a0_2, .int .i64 a0_3, .int .i64 a0_4, .int .i64 a0_5, .int .i64 a0_6, .int .i64 a0_7, .int .i64 a0_8, .int .i64 a0_9, .bool a0_10, .int .i64 a0_11] (0, 0) _ rfl (by (with_reducible repeat (first | refine blk_drewN ?_ _ | refine blk_drew ?_ | refine blk_alloc ?_ _)); refine blk_put (cs := #[.int .i64 a0_0, .int .i64 a0_1, .int .i64 a0_2, .int .i64 a0_3, .int .i64 a0_4, .int .i64 a0_5, .int .i64 a0_6, .int .i64 a0_7, .int .i64 a0_8, .int .i64 a0_9, .bool a0_10, .int .i64 0]) ?_ 11 _ rfl; (with_reducible repeat (first | refine blk_drewN ?_ _ | refine blk_drew ?_ | refine blk_alloc ?_ _)); refine blk_put (cs := #[.int .i64 a0_0, .int .i64 a0_1, .int .i64 a0_2, .int .i64 a0_3, .int .i64 a0_4, .int .i64 a0_5, .int .i64 a0_6, .int .i64 a0_7, .int .i64 a0_8, .int .i64 a0_9, .bool false, .int .i64 0]) ?_ 10 _ rfl; (with_reducible repeat (first | refine blk_drewN ?_ _ | refine blk_drew ?_ | refine blk_alloc ?_ _)); refine blk_put (cs := #[.int .i64 a0_0, .int .i64 a0_1, .int .i64 a0_2, .int .i64 a0_3, .int .i64 a0_4, .int .i64 a0_5, .int .i64 a0_6, .int .i64 a0_7, .int .i64 a0_8, .int .i64 0, .bool false, .int .i64 0]) ?_ 9 _ rfl; (with_reducible repeat (first | refine blk_drewN ?_ _ | refine blk_drew ?_ | refine blk_alloc ?_ _)); refine blk_put (cs := #[.int .i64 a0_0, .int .i64 a0_1, .int .i64 a0_2, .int .i64 a0_3, .int .i64 a0_4, .int .i64 a0_5, .int .i64 a0_6, .int .i64 a0_7, .int .i64 0, .int .i64 0, .bool false, .int .i64 0]) ?_ 8 _ rfl; (with_reducible repeat (first | refine blk_drewN ?_ _ | refine blk_drew ?_ | refine blk_alloc ?_ _)); refine blk_put (cs := #[.int .i64 a0_0, .int .i64 a0_1, .int .i64 a0_2, .int .i64 a0_3, .int .i64 a0_4, .int .i64 a0_5, .int .i64 a0_6, .int .i64 0, .int .i64 0, .int .i64 0, .bool false, .int .i64 0]) ?_ 7 _ rfl; (with_reducible repeat (first | refine blk_drewN ?_ _ | refine blk_drew ?_ | refine blk_alloc ?_ _)); refine blk_put (cs := #[.int .i64 a0_0, .int .i64 a0_1, .int .i64 a0_2, .int .i64 a0_3, .int .i64 a0_4, .int .i64 a0_5, .int .i64 0, .int .i64 0, .int .i64 0, .int .i64 0, .bool false, .int .i64 0]) ?_ 6 _ rfl; (with_reducible repeat (first | refine blk_drewN ?_ _ | refine blk_drew ?_ | refine blk_alloc ?_ _)); refine blk_put (cs := #[.int .i64 a0_0, .int .i64 a0_1, .int .i64 a0_2, .int .i64 a0_3, .int .i64 a0_4, .int .i64 0, .int .i64 0, .int .i64 0, .int .i64 0, .int .i64 0, .bool false, .int .i64 0]) ?_ 5 _ rfl; (with_reducible repeat (first | refine blk_drewN ?_ _ | refine blk_drew ?_ | refine blk_alloc ?_ _)); refine blk_put (cs := #[.int .i64 a0_0, .int .i64 a0_1, .int .i64 a0_2, .int .i64 a0_3, .int .i64 0, .int .i64 0, .int .i64 0, .int .i64 0, .int .i64 0, .int .i64 0, .bool false, .int .i64 0]) ?_ 4 _ rfl; (with_reducible repeat (first | refine blk_drewN ?_ _ | refine blk_drew ?_ | refine blk_alloc ?_ _)); refine blk_put (cs := #[.int .i64 a0_0, .int .i64 a0_1, .int .i64 a0_2, .int .i64 0, .int .i64 0, .int .i64 0, .int .i64 0, .int .i64 0, .int .i64 0, .int .i64 0, .bool false, .int .i64 0]) ?_ 3 _ rfl; (with_reducible repeat (first | refine blk_drewN ?_ _ | refine blk_drew ?_ | refine blk_alloc ?_ _)); refine blk_put (cs := #[.int .i64 a0_0, .int .i64 a0_1, .int .i64 0, .int .i64 0, .int .i64 0, .int .i64 0, .int .i64 0, .int .i64 0, .int .i64 0, .int .i64 0, .bool false, .int .i64 0]) ?_ 2 _ rfl; (with_reducible repeat (first | refine blk_drewN ?_ _ | refine blk_drew ?_ | refine blk_alloc ?_ _)); refine blk_put (cs := #[.int .i64 a0_0, .int .i64 0, .int .i64 0, .int .i64 0, .int .i64 0, .int .i64 0, .int .i64 0, .int .i64 0, .int .i64 0, .int .i64 0, .bool false, .int .i64 0]) ?_ 1 _ rfl; (with_reducible repeat (first | refine blk_drewN ?_ _ | refine blk_drew ?_ | refine blk_alloc ?_ _)); refine blk_put (cs := #[.int .i64 0, .int .i64 0, .int .i64 0, .int .i64 0, .int .i64 0, .int .i64 0, .int .i64 0, .int .i64 0, .int .i64 0, .int .i64 0, .bool false, .int .i64 0]) ?_ 0 _ rfl; (with_reducible repeat (first | refine blk_drewN ?_ _ | refine blk_drew ?_ | refine blk_alloc ?_ _)); exact BK102.out) Try.underlying54 rfl (by kernel_rfl)) rfl ?_
 exact ⟨by first | rfl | (simp [errW_none, errW_some] <;> rfl) | (simp [*, errW_none, errW_some] <;> rfl), by repeat (first | (with_reducible first | exact HB.out | apply below_alloc | apply pw_below_drewN | apply below_drew1 | refine below_set ?_ GE101.out | refine below_set ?_ GE102.out) | exact HB.out)⟩
end Go.Proofs.Ythniclbmpeklmaa.KJf
end
section
namespace Go.Proofs.Ythniclbmpeklmaa.Mo
open Go.RowKit Go.Maps Go.Proofs.YthniclbmpeklmaaW.PrintWords Go.Proofs.YthniclbmpeklmaaW.PrintLast Go.Proofs.YthniclbmpeklmaaW.PrintMore Go.Proofs.Ythniclbmpeklmaa.Mp Go.Proofs.Ythniclbmpeklmaa.Ju
open Go.Proofs.Ythniclbmpeklmaa.Au (Ha RowIs flat_get flat_len haV lawH types_ne evA Ev Fr)
set_option linter.unusedVariables false
set_option linter.unusedSimpArgs false
theorem of_ev (e : Ev) (W : World) : Calls Try.prog 30 #[.agg (evA e)] W fun r w' => r = .returned (.agg (evA e)) ∧ Below W.heap.size W w' :=
 KJf.knelllaw11_Of.calls _ _ _ _ _ _ _ _ _ _ _ _ _ _ _ _ _ _ _ _ _ _ _ _ W rfl
structure Nw (w W : World) (b m1 m2 n : Nat) (m : Md) (v : Value) (L : List Tm) : Prop where
 mw : Mw w W b m1 m2 n m
 row : RowIs W w.heap.size 81 3 tmA v L
theorem Nw.step {w W W1 : World} {b m1 m2 n : Nat} {m : Md} {v : Value} {L : List Tm} (h : Nw w W b m1 m2 n m v L) (hb : Below W.heap.size W W1) : Nw w W1 b m1 m2 n m v L := ⟨h.mw.step hb, pw_own_below h.row hb⟩
theorem row_lower {w : World} {B B' T k : Nat} {α : Type} {A : α → Array Value} {v : Value} {L : List α} (h : RowIs w B T k A v L) (hB : B' ≤ B) : RowIs w B' T k A v L := by
 refine ⟨h.1, ?_⟩
 rcases h.2 with q | ⟨g, cap, cur, hv, hb, q⟩
 ·exact .inl q
 ·exact .inr ⟨g, cap, cur, hv, Nat.le_trans hB hb, q⟩
theorem armed_uniq {m : Md} {L L' : List Tm} (h : ArmedIs m L) (h' : ArmedIs m L') : L = L' := by
 have key : ∀ (n : Nat) (L L' : List Tm), L.length = n → L.Pairwise ltT → L'.Pairwise ltT → (∀ x, x ∈ L ↔ x ∈ L') → L = L' := by
  intro n
  induction n with
  | zero =>
   intro L L' hl _ _ hm
   obtain rfl := List.length_eq_zero_iff.1 hl
   cases L' with
   | nil => rfl
   | cons y r => exact absurd ((hm y).2 (by simp)) (by simp)
  | succ n ih =>
   intro L L' hl h1 h2 hm
   cases L with
   | nil => cases hl
   | cons x r =>
    cases L' with
    | nil => exact absurd ((hm x).1 (by simp)) (by simp)
    | cons y s =>
     rw [List.pairwise_cons] at h1 h2
     have e : x = y := by
      rcases List.mem_cons.1 ((hm x).1 (by simp)) with q | q
      ·exact q
      ·rcases List.mem_cons.1 ((hm y).2 (by simp)) with q2 | q2
       ·exact q2.symm
       ·have a := h1.1 y q2; have c := h2.1 x q; unfold ltT at a c; omega
     subst e
     rw [ih r s (by simpa using hl) h1.2 h2.2 (fun z => ?_)]
     have hz := hm z
     rw [List.mem_cons, List.mem_cons] at hz
     refine ⟨fun q => ?_, fun q => ?_⟩
     ·rcases hz.1 (.inr q) with e | q2
      ·subst e; have a := h1.1 z q; unfold ltT at a; omega
      ·exact q2
     ·rcases hz.2 (.inr q) with e | q2
      ·subst e; have a := h2.1 z q; unfold ltT at a; omega
      ·exact q2
 refine key _ L L' rfl (List.pairwise_iff_getElem.2 fun i j hi hj hij => h.sorted i j hi hj hij) (List.pairwise_iff_getElem.2 fun i j hi hj hij => h'.sorted i j hi hj hij) fun x => ⟨fun q => ?_, fun q => ?_⟩
 ·exact (h'.mem x.1 x.2 (h.wf x q)).2 ((h.mem x.1 x.2 (h.wf x q)).1 q)
 ·exact (h.mem x.1 x.2 (h'.wf x q)).2 ((h'.mem x.1 x.2 (h'.wf x q)).1 q)
end Go.Proofs.Ythniclbmpeklmaa.Mo
end
section
namespace Go.Proofs.Ythniclbmpeklmaa.KJf
open Go.RowKit Go.Proofs.YthniclbmpeklmaaW.PrintWords Go.Proofs.YthniclbmpeklmaaW.PrintLast Go.Proofs.YthniclbmpeklmaaW.PrintMore
attribute [local go_sem] max2_int min2_int max_two min_two max_three min_three max_four min_four   -- for this text's walks alone
set_option linter.unusedVariables false
set_option linter.unusedSimpArgs false
def knelllaw12_Of.f (a0_0 : Int) (a0_1 : Int) : Option (Int × Int) := some (a0_0, a0_1)
set_option maxHeartbeats 8000000 in
set_option maxRecDepth 100000 in
theorem knelllaw12_Of.calls (a0_0 : Int) (a0_1 : Int) (r1 : Int) (r2 : Int) (w : World) (h : knelllaw12_Of.f a0_0 a0_1 = some (r1, r2)) :
  Calls Try.prog 34 #[.agg #[.int .i64 a0_0, .int .i64 a0_1]] w fun e w' => e = .returned (.agg #[.int .i64 r1, .int .i64 r2]) ∧ Below w.heap.size w w' := by
 have hu36 := Try.underlying36
 have hu34 := Try.underlying34
 have HB := Aside0.mk (Below.refl w.heap.size w)
 have H : (some (a0_0, a0_1)) = some (r1, r2) := h
 clear h
 simp only [Option.some.injEq, Prod.mk.injEq] at H
 obtain ⟨rfl, rfl⟩ := H
 go_enter Try.func34, Try.ntmps34
 go_wp2_with (first | ((with_reducible refine gate_dst (N := 1) rfl ?_); refine box_event ?hg (N := 1) ?hd (cs := #[.int .i64 a0_0, .int .i64 a0_1]) (t := 36) ?hr ?_; (case hd => rfl); (case hg => rfl); (case hr => first | (go_simp; done) | (go_simp; rfl)); intro gb217 hg w2 hbox hb; have n0_ := Aside0.mk (below_step (by repeat (first | (with_reducible first | exact HB.out | apply below_alloc | apply pw_below_drewN | apply below_drew1) | exact HB.out)) hb); have n1_ := Aside0.mk (hbox); have n2_ := Aside0.mk ((by rw [hg]; exact (below_size (by repeat (first | (with_reducible first | exact HB.out | apply below_alloc | apply pw_below_drewN | apply below_drew1) | exact HB.out))) : w.heap.size ≤ gb217)); have n3_ := Aside0.mk ((by rw [hg]; exact (below_size (by repeat (first | (with_reducible first | exact HB.out | apply below_alloc | apply pw_below_drewN | apply below_drew1) | exact HB.out))) : w.heap.size ≤ gb217)); clear HB; have HB := n0_; have BK217 := n1_; have GW217 := n2_; have GE217 := n3_; clear n0_ n1_ n2_ n3_; clear hb hbox hg) | ((with_reducible refine gate_dst (N := 2) rfl ?_); refine box_event ?hg (N := 2) ?hd (cs := #[.int .i64 0, .int .i64 0]) (t := 34) ?hr ?_; (case hd => rfl); (case hg => rfl); (case hr => first | (go_simp; done) | (go_simp; rfl)); intro gb218 hg w3 hbox hb; have n0_ := Aside0.mk (blk_below (g := gb217) (o := .cells #[.int .i64 a0_0, .int .i64 a0_1] 36 (0, 0)) (by (with_reducible repeat (first | refine blk_drewN ?_ _ | refine blk_drew ?_ | refine blk_alloc ?_ _)); exact BK217.out) hb); have n1_ := Aside0.mk (below_step (by repeat (first | (with_reducible first | exact HB.out | apply below_alloc | apply pw_below_drewN | apply below_drew1 | refine below_set ?_ GE217.out) | exact HB.out)) hb); have n2_ := Aside0.mk (hbox); have n3_ := Aside0.mk ((by rw [hg]; exact (below_size (by repeat (first | (with_reducible first | exact HB.out | apply below_alloc | apply pw_below_drewN | apply below_drew1 | refine below_set ?_ GE217.out) | exact HB.out))) : w.heap.size ≤ gb218)); have n4_ := Aside0.mk ((by rw [hg]; exact (below_size (by repeat (first | (with_reducible first | exact HB.out | apply below_alloc | apply pw_below_drewN | apply below_drew1 | refine below_set ?_ GE217.out) | exact HB.out))) : w.heap.size ≤ gb218)); have n5_ := Aside0.mk ((by rw [hg]; exact Nat.ne_of_lt (blk_lt (g := gb217) (o := .cells #[.int .i64 a0_0, .int .i64 a0_1] 36 (0, 0)) (by (with_reducible repeat (first | refine blk_drewN ?_ _ | refine blk_drew ?_ | refine blk_alloc ?_ _)); exact BK217.out)) : gb217 ≠ gb218)); have n6_ := Aside0.mk ((by rw [hg]; exact Nat.ne_of_gt (blk_lt (g := gb217) (o := .cells #[.int .i64 a0_0, .int .i64 a0_1] 36 (0, 0)) (by (with_reducible repeat (first | refine blk_drewN ?_ _ | refine blk_drew ?_ | refine blk_alloc ?_ _)); exact BK217.out)) : gb218 ≠ gb217)); clear BK217; clear HB; have BK217 := n0_; have HB := n1_; have BK218 := n2_; have GW218 := n3_; have GE218 := n4_; have NB217_218 := n5_; have NB218_217 := n6_; clear n0_ n1_ n2_ n3_ n4_ n5_ n6_; clear hb hbox hg; have hnb4 := NB217_218.out; have hnc4 := NB218_217.out; have hcz5_0 : w3.cell? ⟨gb217, 0, none⟩ = some (.int .i64 a0_0) := (blk_cell BK217.out 0).trans rfl; have hcz5_1 : w3.cell? ⟨gb217, 1, none⟩ = some (.int .i64 a0_1) := (blk_cell BK217.out 1).trans rfl; have hfz5_0 := blk_frozen BK217.out 0; have hfz5_1 := blk_frozen BK217.out 1; have hcz6_0 : w3.cell? ⟨gb218, 0, none⟩ = some (.int .i64 0) := (blk_cell BK218.out 0).trans rfl; have hcz6_1 : w3.cell? ⟨gb218, 1, none⟩ = some (.int .i64 0) := (blk_cell BK218.out 1).trans rfl; have hfz6_0 := blk_frozen BK218.out 0; have hfz6_1 := blk_frozen BK218.out 1))
 refine bodyPost_ret (results_cell_row rfl _ _ gb218 34 #[.int .i64 a0_0, .int .i64 a0_1] (0, 0) _ rfl (by (with_reducible repeat (first | refine blk_drewN ?_ _ | refine blk_drew ?_ | refine blk_alloc ?_ _)); refine blk_put (cs := #[.int .i64 a0_0, .int .i64 0]) ?_ 1 _ rfl; (with_reducible repeat (first | refine blk_drewN ?_ _ | refine blk_drew ?_ | refine blk_alloc ?_ _)); refine blk_put (cs := #[.int .i64 0, .int .i64 0]) ?_ 0 _ rfl; (with_reducible repeat (first | refine blk_drewN ?_ _ | refine blk_drew ?_ | refine blk_alloc ?_ _)); exact BK218.out) Try.underlying34 rfl (by kernel_rfl)) rfl ?_
 exact ⟨by first | rfl | (simp [errW_none, errW_some] <;> rfl) | (simp [*, errW_none, errW_some] <;> rfl), by repeat (first | (with_reducible first | exact HB.out | apply below_alloc | apply pw_below_drewN | apply below_drew1 | refine below_set ?_ GE217.out | refine below_set ?_ GE218.out) | exact HB.out)⟩
end Go.Proofs.Ythniclbmpeklmaa.KJf
end
section
namespace Go.Proofs.Ythniclbmpeklmaa.Mo
open Go.RowKit Go.Maps Go.Proofs.YthniclbmpeklmaaW.PrintWords Go.Proofs.YthniclbmpeklmaaW.PrintLast Go.Proofs.YthniclbmpeklmaaW.PrintMore Go.Proofs.Ythniclbmpeklmaa.Mp Go.Proofs.Ythniclbmpeklmaa.Ju
open Go.Proofs.Ythniclbmpeklmaa.Au (Ha RowIs flat_get flat_len haV lawH types_ne evA Ev Fr)
set_option linter.unusedVariables false
set_option linter.unusedSimpArgs false
theorem of_ha (x y : Int) (W : World) : Calls Try.prog 34 #[.agg #[.int .i64 x, .int .i64 y]] W fun r w' => r = .returned (.agg #[.int .i64 x, .int .i64 y]) ∧ Below W.heap.size W w' :=
 KJf.knelllaw12_Of.calls _ _ _ _ W rfl
theorem eqTm (d : Nat) (w : World) (x0 y0 : Int) (x1 y1 : Int) (x2 y2 : Int) :
  (Op.equalIn (d + 3) 81 (.agg #[.int .i64 x0, .int .i64 x1, .int .i64 x2]) (.agg #[.int .i64 y0, .int .i64 y1, .int .i64 y2])).run Try.prog w = .ok ((x0 == y0 && (x1 == y1)) && (x2 == y2)) w := by
 refine eqA_of Try.underlying81 (by kernel_rfl) ?_
 refine eqf_cons (by rfl) (by go_simp) (by go_simp) (Ev.eqHa (d + 0) w _ _ _ _) ?_
 exact eqf_last (by rfl) (by go_simp; rfl) (by go_simp; rfl) (by go_simp)
attribute [local go_sem high] eqTm
theorem same_err {m : Md} {e : Ev} (he : ¬ ((doF m e).2 = 0 ∧ e.er = 0)) : (doF m e).1 = m := by
 by_cases hz : (doF m e).2 = 0
 ·have hne : e.er ≠ 0 := fun q => he ⟨hz, q⟩
  obtain ⟨hr, hd⟩ := did hz
  unfold rightJ at hr
  generalize (doF m e).1 = m' at hd
  cases hd with
  | tick hk ht => unfold Ev.evRight Ev.emptyB Ev.hasE Ev.in3 at hr; rw [hk] at hr; simp at hr; omega
  | fire hk ha hd hc => unfold Ev.evRight Ev.emptyB Ev.hasE Ev.in3 at hr; rw [hk] at hr; simp at hr; omega
  | cancel hk ho hy ha => unfold Ev.evRight Ev.emptyB Ev.hasE Ev.in3 at hr; rw [hk, ho, hy] at hr; simp at hr; omega
  | same hk hm he => rfl
  | start hk ho he hs => exact absurd he hne
  | rearm hk ho he ha h1 h2 => exact absurd he hne
 ·exact do_fail hz
theorem fr_row {W W1 : World} {B b n m1 m2 : Nat} {m : Md} {v : Value} {L : List Tm} (hf : Fr W W1 (mdS b m1 m2)) (h : MdIs W B b n m m1 m2) (hr : RowIs W B 81 3 tmA v L) : RowIs W1 B 81 3 tmA v L := by
 refine ⟨hr.1, ?_⟩
 rcases hr.2 with q | ⟨g, cap, cur, hv, hb, hg, q⟩
 ·exact .inl q
 ·exact .inr ⟨g, cap, cur, hv, hb, fr_cells hf h hg (by decide), q⟩
structure Rw (w W : World) (b m1 m2 n : Nat) (m : Md) (v : Value) (L : List Tm) (yb : Nat) (e : Ev) : Prop where
 nw : Nw w W b m1 m2 n m v L
 y_ : W.heap[yb]? = some (.cells (evA e) 50 (0, 0))
theorem Rw.step {w W W1 : World} {b m1 m2 n : Nat} {m : Md} {v : Value} {L : List Tm} {yb : Nat} {e : Ev} (h : Rw w W b m1 m2 n m v L yb e) (hb : Below W.heap.size W W1) : Rw w W1 b m1 m2 n m v L yb e := ⟨h.nw.step hb, blk_below h.y_ hb⟩
theorem Rw.doing {w W : World} {b m1 m2 n : Nat} {m : Md} {v : Value} {L : List Tm} {yb : Nat} {e : Ev} (h : Rw w W b m1 m2 n m v L yb e) (hn : n + 1 ≤ 1000000) (hw : wfJ e) :
  Calls Try.prog 43 #[pA b, .agg (evA e)] W fun r w' => r = .returned (.int .i64 (doF m e).2) ∧ Rw w w' b m1 m2 (n + 3) (doF m e).1 v L yb e :=
 (h.nw.mw.doing hn hw).mono fun _ _ ⟨h1, h2, h3⟩ => ⟨h1, ⟨⟨h2, fr_row h3 h.nw.mw.md h.nw.row⟩, fr_cells h3 h.nw.mw.md h.y_ (by decide)⟩⟩
def mrR.T10 : Bool × List (List Nat × List Nat) := (true, [([], []), ([], []), ([1], [1]), ([2], [2]), ([0, 3, 3], [0, 3]), ([], []), ([], []), ([6], [6]), ([7, 4], [7]), ([5, 8, 8], [5, 8]), ([4, 9, 0, 1, 2, 3, 4], [4]), ([9, 10, 0, 1, 2, 3, 4, 5, 6, 7, 8, 9, 10], [9])])
def mrR.B10 : List Nat := [0, 0, 2, 6, 15, 0, 0, 64, 223, 511, 1023, 2047]
theorem mrR.tab10 : rtab .any (opsOf Try.f12 10) = mrR.T10 := by kernel_rfl
theorem mrR.bits10 : waitsOk mrR.T10.2 mrR.B10 = true := by kernel_rfl
def mrS.T19 : Bool × List (List Nat × List Nat) := (true, [([], []), ([], []), ([0, 1], [0, 1]), ([2], [2]), ([], []), ([], []), ([4, 5], [4, 5]), ([6], [6]), ([3, 7], [3, 7])])
def mrS.B19 : List Nat := [0, 0, 3, 7, 0, 0, 48, 112, 255]
theorem mrS.tab19 : rtab .any (opsOf Try.f12 19) = mrS.T19 := by kernel_rfl
theorem mrS.bits19 : waitsOk mrS.T19.2 mrS.B19 = true := by kernel_rfl
set_option maxHeartbeats 20000000 in
set_option maxRecDepth 100000 in
theorem refuses_long (A1 : Option Addr) (n c1 : Nat) (hn : 60 < n) (w : World) :
  Calls Try.prog 12 #[.slice A1 n c1] w fun r w' => r = .returned (.bool true) ∧ Below w.heap.size w w' := by
 have CS := Aside0.mk (fun W => speaks12 W)
 have hn' : decide ((n : Int) > 60) = true := by simp; omega
 clear hn
 go_enter Try.func12, Try.ntmps12
 go_wp2_with (first | (go_at_call 39; (with_reducible refine (CS.out _).mono ?_); rintro r w2 ⟨rfl, hb⟩; have n2 := Aside0.mk (below_step n1.out hb); clear hb n1; have n1 := n2) | (go_at_call 39; (with_reducible refine (CS.out _).mono ?_); rintro r w1 ⟨rfl, hb⟩; have n1 := Aside0.mk hb; clear hb))
 go_ret
 exact ⟨rfl, n1.out⟩
set_option maxHeartbeats 20000000 in
set_option maxRecDepth 100000 in
theorem refuses_main (A1 : Option Addr) (c1 : Nat) (l : List Ev) (hn : l.length ≤ 60) (w : World) (hin : ∀ (i : Nat) e, l[i]? = some e → EvIn w A1 i e) (hwf : ∀ e ∈ l, wfJ e) :
  Calls Try.prog 12 #[.slice A1 l.length c1] w fun r w' => r = .returned (.bool true) ∧ Below w.heap.size w w' := by
 have hu2 := Try.underlying50
 have hu3 := Try.underlying81
 have hu4 := Try.underlying22
 have hu5 := Try.underlying78
 have hu6 := Try.underlying34
 have hu7 := Try.underlying36
 have CS := Aside0.mk (fun W => speaks12 W)
 have CN := Aside0.mk (fun W => model_new W)
 have CO := Aside0.mk (fun e W => of_ev e W)
 have COH := Aside0.mk (fun x y W => of_ha x y W)
 have HIN := Aside0.mk hin
 have HWF := Aside0.mk hwf
 have HN := Aside0.mk hn
 have hn' : decide ((l.length : Int) > 60) = false := by simp; omega
 clear hin hwf hn
 go_enter Try.func12, Try.ntmps12
 go_wp2_with (first | (go_at_call 39; (with_reducible refine (CS.out _).mono ?_); rintro r w1 ⟨rfl, hb⟩; have n1 := Aside0.mk hb; clear hb) | (go_at_call 40; (with_reducible refine (CN.out _).mono ?_); rintro r w2 ⟨rfl, hmd, hb⟩; have HM0 := Aside0.mk (show Mw w w2 (w1.heap.size + 1 + 1) w1.heap.size (w1.heap.size + 1) 0 md0 from ⟨MdIs.lower hmd n1.out.size, below_step n1.out hb, MOk0⟩); clear hmd hb n1))
 obtain ⟨b, hb⟩ : ∃ b, w1.heap.size + 1 + 1 = b := ⟨_, rfl⟩
 obtain ⟨m2, hm2⟩ : ∃ b, w1.heap.size + 1 = b := ⟨_, rfl⟩
 obtain ⟨m1, hm1⟩ : ∃ b, w1.heap.size = b := ⟨_, rfl⟩
 rw [hb, hm2, hm1] at HM0
 try rw [hb]
 clear hb hm2 hm1
 go_loopw [26] (fun i wr => ∃ (k : Nat) (m : Md), k ≤ l.length ∧ i = .int .i64 k ∧ Aside0 (Mw w wr b m1 m2 (3 * k) m)) (fun i _ => l.length - (intOf i).toNat)
 case atStart => exact ⟨0, md0, by omega, rfl, HM0⟩
 case round =>
  clear HM0
  obtain ⟨k, m, hk, rfl, HI⟩ := hrel
  rcases Nat.lt_or_ge k l.length with hlt | hge
  ·have p0 : (0 : Int) ≤ (k : Int) := by omega
   have q0 : (k : Int) < (l.length : Int) := by omega
   obtain ⟨e, he⟩ : ∃ e, l[k]? = some e := ⟨_, List.getElem?_eq_getElem hlt⟩
   have HW := Aside0.mk (HWF.out e (Go.Proofs.Ythniclbmpeklmaa.Au.get_mem he))
   obtain ⟨ad, rfl, d0, d1, d2, d3, d4, d5, d6, d7, d8, d9, d10, d11⟩ := (HIN.out k e he).below HI.out.bel
   have hnn : wrap64 ((k : Int) + 1) = ((k + 1 : Nat) : Int) := by have := HN.out; unfold wrap64; omega
   have HKL := Aside0.mk hlt
   have HK60 := Aside0.mk (show 3 * k + 3 ≤ 1000 by have := HN.out; omega)
   clear he hlt
   replace q0 := eq_true q0
   replace p0 := eq_true p0
   have HY := Aside0.mk (And.intro (HI.out.alloc (.cells (evA e) 50)) (blk_new wr (.cells (evA e) 50)))
   have hcy := fun i => blk_cell HY.out.2 i
   have hly := blk_lt HY.out.2
   go_upto_region 10 with (first | (go_at_call 41; refine (model_clock HY.out.1.md).mono ?_; rintro r w3 ⟨rfl, rfl⟩) | (go_at_call 42; go_loud ((with_reducible refine (armed_any HY.out.1.md (by have := HN.out; omega)).mono ?_); rintro r w5 ⟨v, L, rfl, hR, hA, hL, hb⟩; obtain ⟨A2, c2, rfl, hc2⟩ := hR.form; have HA := Aside0.mk hA; have HL := Aside0.mk hL; have HQ := Aside0.mk (show Rw w w5 b m1 m2 (3 * k) m _ L wr.heap.size e from ⟨⟨HY.out.1.step hb, row_lower hR HY.out.1.bel.size⟩, blk_below HY.out.2 hb⟩); clear hR hA hL hb hc2 hcy hly; have hcy := fun i => blk_cell HQ.out.y_ i; have hly := blk_lt HQ.out.y_)))
   clear d0 d1 d2 d3 d4 d5 d6 d7 d8 d9 d10 d11 HY
   obtain ⟨yb, hyb⟩ : ∃ y, wr.heap.size = y := ⟨_, rfl⟩
   rw [hyb] at HQ
   simp only [hyb] at hcy hly ⊢
   clear hyb
   obtain ⟨sa, hsa⟩ : ∃ s, m.st (e.hn, e.hg) = s := ⟨_, rfl⟩
   obtain ⟨sb, hsb⟩ : ∃ s, m.st (e.nn, e.ng) = s := ⟨_, rfl⟩
   obtain ⟨c, hc⟩ : ∃ c, (doF m e).2 = c := ⟨_, rfl⟩
   have CSA : Aside0 (∀ W n, Rw w W b m1 m2 n m (.slice A2 L.length c2) L yb e → Calls Try.prog 33 #[pA b, .agg #[.int .i64 e.hn, .int .i64 e.hg]] W fun r w' => r = .returned (.int .i64 sa) ∧ Below W.heap.size W w') := ⟨fun W n hW => by have q := model_status e.hn e.hg HW.out.1.1 HW.out.1.2.1 hW.nw.mw.md; rw [hsa] at q; exact q⟩
   have CSB : Aside0 (∀ W n, Rw w W b m1 m2 n m (.slice A2 L.length c2) L yb e → Calls Try.prog 33 #[pA b, .agg #[.int .i64 e.nn, .int .i64 e.ng]] W fun r w' => r = .returned (.int .i64 sb) ∧ Below W.heap.size W w') := ⟨fun W n hW => by have q := model_status e.nn e.ng HW.out.1.2.2.1 HW.out.1.2.2.2 hW.nw.mw.md; rw [hsb] at q; exact q⟩
   have CDO : Aside0 (∀ W, Rw w W b m1 m2 (3 * k) m (.slice A2 L.length c2) L yb e → Calls Try.prog 43 #[pA b, .agg (evA e)] W fun r w' => r = .returned (.int .i64 c) ∧ Rw w w' b m1 m2 (3 * k + 3) (doF m e).1 (.slice A2 L.length c2) L yb e) := ⟨fun W hW => by rw [← hc]; exact hW.doing (by have := HN.out; omega) HW.out⟩
   have HC := Aside0.mk hc
   clear hsa hsb hc
   refine start_ (n := 12) (S := (fun w' => (∀ i, w'.cell? ⟨yb, i, none⟩ = (evA e)[i]?))) (ds := []) #[ff,ff,ff,ff,ff,ff,ff,ff,ff,ff,ff,ff] (by kernel_rfl) rfl rfl (fun i => blk_cell (blk_below HQ.out.y_ (below_drew (Below.refl _ _))) i) (fun hHeld => ?_)
   refine with_tabW mrR.tab10 mrR.bits10 (fun HT_ HW_ => ?_)
   have Q6 := Aside0.mk (HQ.out.step (below_drew (Below.refl _ _)))
   generalize w5.drew = w6 at Q6 hHeld ⊢
   refine pure_ (i := 0) (N := (some 34)) (v := ?_) (a' := ?_) #[tt,ff,ff,ff,ff,ff,ff,ff,ff,ff,ff,ff] rfl rfl (any_of HT_.out (by kernel_rfl)) (fun _ _ _ h => h) (Or.inl ⟨by rfl, ?_⟩) ?_ ?_
   rotate_left
   ·intro w'
    go_simp
    with_reducible rfl
   rotate_left
   ·simp only [Act.put, sQ0, sQ1, sQ2, i64_w]
    rfl
   refine pure_ (i := 1) (N := (some 35)) (v := ?_) (a' := ?_) #[tt,tt,ff,ff,ff,ff,ff,ff,ff,ff,ff,ff] rfl rfl (any_of HT_.out (by kernel_rfl)) (fun _ _ _ h => h) (Or.inl ⟨by rfl, ?_⟩) ?_ ?_
   rotate_left
   ·intro w'
    go_simp
    with_reducible rfl
   rotate_left
   ·simp only [Act.put, sQ0, sQ1, sQ2, i64_w]
    rfl
   refine pure_ (i := 5) (N := (some 39)) (v := ?_) (a' := ?_) #[tt,tt,ff,ff,ff,tt,ff,ff,ff,ff,ff,ff] rfl rfl (any_of HT_.out (by kernel_rfl)) (fun _ _ _ h => h) (Or.inl ⟨by rfl, ?_⟩) ?_ ?_
   rotate_left
   ·intro w'
    go_simp
    with_reducible rfl
   rotate_left
   ·simp only [Act.put, sQ0, sQ1, sQ2, i64_w]
    rfl
   refine pure_ (i := 6) (N := (some 40)) (v := ?_) (a' := ?_) #[tt,tt,ff,ff,ff,tt,tt,ff,ff,ff,ff,ff] rfl rfl (any_of HT_.out (by kernel_rfl)) (fun _ _ _ h => h) (Or.inl ⟨by rfl, ?_⟩) ?_ ?_
   rotate_left
   ·intro w'
    go_simp
    with_reducible rfl
   rotate_left
   ·simp only [Act.put, sQ0, sQ1, sQ2, i64_w]
    rfl
   refine take_ (i := 2) (N := (some 36)) (v := ?_) (a' := ?_) #[tt,tt,tt,ff,ff,tt,tt,ff,ff,ff,ff,ff] rfl rfl (take_ofW HT_.out HW_.out (by kernel_rfl)) (fun _ _ _ h => h) (Or.inl ⟨by rfl, ?_⟩) hHeld ?_ ?_
   rotate_left
   ·rintro w' s0
    go_simp
    with_reducible rfl
   rotate_left
   ·simp only [Act.put, sQ0, sQ1, sQ2, i64_w]
    rfl
   refine take_ (i := 7) (N := (some 41)) (v := ?_) (a' := ?_) #[tt,tt,tt,ff,ff,tt,tt,tt,ff,ff,ff,ff] rfl rfl (take_ofW HT_.out HW_.out (by kernel_rfl)) (fun _ _ _ h => h) (Or.inl ⟨by rfl, ?_⟩) hHeld ?_ ?_
   rotate_left
   ·rintro w' s0
    go_simp
    with_reducible rfl
   rotate_left
   ·simp only [Act.put, sQ0, sQ1, sQ2, i64_w]
    rfl
   refine one_ (i := 3) (N := (some 37)) #[tt,tt,tt,tt,ff,tt,tt,tt,ff,ff,ff,ff] rfl rfl (one_of HT_.out (by kernel_rfl)) (by decide) (fun K hK => ?_)
   refine call_ (f := 34) #[.agg #[.int .i64 e.hn, .int .i64 e.hg]] (by rfl) rfl (by go_simp <;> rfl) ?_
   refine (COH.out _ _ w6).mono ?_
   rintro rr w7 ⟨rfl, hb⟩
   refine ⟨_, rfl, ?_⟩
   have Q7 := Aside0.mk (Q6.out.step hb)
   clear hb
   refine hK.out _ _ (fun i => blk_cell Q7.out.y_ i) (fun hHeld => ?_)
   clear hK K
   refine norm_ (a' := ?_) ?_ ?_
   rotate_left
   ·show Act.put _ (some 37) _ = _
    simp only [Act.put, sQ0, sQ1, sQ2, i64_w]
    rfl
   refine one_ (i := 4) (N := (some 38)) #[tt,tt,tt,tt,tt,tt,tt,tt,ff,ff,ff,ff] rfl rfl (one_of HT_.out (by kernel_rfl)) (by decide) (fun K hK => ?_)
   refine call_ (f := 33) #[pA b, .agg #[.int .i64 e.hn, .int .i64 e.hg]] (by rfl) rfl (by go_simp <;> rfl) ?_
   refine (CSA.out w7 _ Q7.out).mono ?_
   rintro rr w8 ⟨rfl, hb⟩
   refine ⟨_, rfl, ?_⟩
   have Q8 := Aside0.mk (Q7.out.step hb)
   clear hb
   refine hK.out _ _ (fun i => blk_cell Q8.out.y_ i) (fun hHeld => ?_)
   clear hK K
   refine norm_ (a' := ?_) ?_ ?_
   rotate_left
   ·show Act.put _ (some 38) _ = _
    simp only [Act.put, sQ0, sQ1, sQ2, i64_w]
    rfl
   refine one_ (i := 8) (N := (some 42)) #[tt,tt,tt,tt,tt,tt,tt,tt,tt,ff,ff,ff] rfl rfl (one_of HT_.out (by kernel_rfl)) (by decide) (fun K hK => ?_)
   refine call_ (f := 34) #[.agg #[.int .i64 e.nn, .int .i64 e.ng]] (by rfl) rfl (by go_simp <;> rfl) ?_
   refine (COH.out _ _ w8).mono ?_
   rintro rr w9 ⟨rfl, hb⟩
   refine ⟨_, rfl, ?_⟩
   have Q9 := Aside0.mk (Q8.out.step hb)
   clear hb
   refine hK.out _ _ (fun i => blk_cell Q9.out.y_ i) (fun hHeld => ?_)
   clear hK K
   refine norm_ (a' := ?_) ?_ ?_
   rotate_left
   ·show Act.put _ (some 42) _ = _
    simp only [Act.put, sQ0, sQ1, sQ2, i64_w]
    rfl
   refine one_ (i := 9) (N := (some 43)) #[tt,tt,tt,tt,tt,tt,tt,tt,tt,tt,ff,ff] rfl rfl (one_of HT_.out (by kernel_rfl)) (by decide) (fun K hK => ?_)
   refine call_ (f := 33) #[pA b, .agg #[.int .i64 e.nn, .int .i64 e.ng]] (by rfl) rfl (by go_simp <;> rfl) ?_
   refine (CSB.out w9 _ Q9.out).mono ?_
   rintro rr w10 ⟨rfl, hb⟩
   refine ⟨_, rfl, ?_⟩
   have Q10 := Aside0.mk (Q9.out.step hb)
   clear hb
   refine hK.out _ _ (fun i => blk_cell Q10.out.y_ i) (fun hHeld => ?_)
   clear hK K
   refine norm_ (a' := ?_) ?_ ?_
   rotate_left
   ·show Act.put _ (some 43) _ = _
    simp only [Act.put, sQ0, sQ1, sQ2, i64_w]
    rfl
   refine pure_ (i := 10) (N := (some 8)) (v := ?_) (a' := ?_) #[tt,tt,tt,tt,tt,tt,tt,tt,tt,tt,tt,ff] rfl rfl (any_of HT_.out (by kernel_rfl)) (fun _ _ _ h => h) (Or.inl ⟨by rfl, ?_⟩) ?_ ?_
   rotate_left
   ·intro w'
    go_simp
    with_reducible rfl
   rotate_left
   ·simp only [Act.put, sQ0, sQ1, sQ2, i64_w]
    rfl
   refine pure_ (i := 11) (N := (some 9)) (v := ?_) (a' := ?_) #[tt,tt,tt,tt,tt,tt,tt,tt,tt,tt,tt,tt] rfl rfl (any_of HT_.out (by kernel_rfl)) (fun _ _ _ h => h) (Or.inl ⟨by rfl, ?_⟩) ?_ ?_
   rotate_left
   ·intro w'
    go_simp
    with_reducible rfl
   rotate_left
   ·simp only [Act.put, sQ0, sQ1, sQ2, i64_w]
    rfl
   refine done_ (done_of HT_.out (by kernel_rfl)) ?_
   clear hHeld hcy hly HQ
   have hcy := fun i => blk_cell Q10.out.y_ i
   have hly := blk_lt Q10.out.y_
   by_cases hc : c = 0 ∧ e.er = 0
   ·have g1 : (c == 0) = true := beq_iff_eq.2 hc.1
    have g2 : (e.er == 0) = true := beq_iff_eq.2 hc.2
    clear hc
    go_wp2_with (first | (go_at_call 30; go_loud ((with_reducible refine (CO.out e _).mono ?_); rintro r w11 ⟨rfl, hb⟩; have Q11 := Aside0.mk (Q10.out.step hb); clear hb hcy hly)) | (go_at_call 43; go_loud ((with_reducible refine (CDO.out _ Q11.out).mono ?_); rintro r w12 ⟨rfl, hq⟩; have Q12 := Aside0.mk hq; clear hq; have hcy := fun i => blk_cell Q12.out.y_ i; have hly := blk_lt Q12.out.y_)))
    go_roundw
    case rel => exact ⟨k + 1, (doF m e).1, by have := HKL.out; omega, by first | rw [hnn] | simp, ⟨by rw [show 3 * (k + 1) = 3 * k + 3 by omega]; exact Q12.out.nw.mw⟩⟩
    case measure => have := HKL.out; first | (rw [hnn]; simp [intOf]; omega) | (simp [intOf]; omega)
   ·have HEQ := Aside0.mk (same_err (m := m) (e := e) (by rw [HC.out]; exact hc))
    have HQ13 : Aside0 (∀ W, Rw w W b m1 m2 (3 * k + 3) (doF m e).1 (.slice A2 L.length c2) L yb e → Rw w W b m1 m2 (3 * k + 3) m (.slice A2 L.length c2) L yb e) := ⟨fun W h => HEQ.out ▸ h⟩
    have e1 : (m.clk != m.clk) = false := by simp
    have e2 : (sa != sa) = false := by simp
    have e3 : (sb != sb) = false := by simp
    have e4 : ((L.length : Int) != (L.length : Int)) = false := by simp
    by_cases h0 : c = 0
    ·have g1 : (c == 0) = true := beq_iff_eq.2 h0
     have g2 : (e.er == 0) = false := beq_eq_false_iff_ne.2 (fun q => hc ⟨h0, q⟩)
     clear hc h0
     go_upto_region 12 with (first | (go_at_call 30; go_loud ((with_reducible refine (CO.out e _).mono ?_); rintro r w11 ⟨rfl, hb⟩; have Q11 := Aside0.mk (Q10.out.step hb); clear hb hcy hly)) | (go_at_call 43; go_loud ((with_reducible refine (CDO.out _ Q11.out).mono ?_); rintro r w12 ⟨rfl, hq⟩; have Q12 := Aside0.mk hq; clear hq; have hcy := fun i => blk_cell Q12.out.y_ i; have hly := blk_lt Q12.out.y_)))
     have Q13 := Aside0.mk (HQ13.out _ Q12.out)
     go_wp2_with (first | (go_at_call 42; go_loud ((with_reducible refine (armed_any Q13.out.nw.mw.md (by have := HK60.out; omega)).mono ?_); rintro r w14 ⟨v, L2, rfl, hR, hA, hL, hb⟩; obtain ⟨A3, c3, rfl, hc3⟩ := hR.form; obtain rfl : L = L2 := (armed_uniq hA HA.out).symm; have Q14 := Aside0.mk (And.intro (Q13.out.step hb) (row_lower hR Q13.out.nw.mw.bel.size)); clear hR hA hL hb hc3 hcy hly; have hcy := fun i => blk_cell Q14.out.1.y_ i; have hly := blk_lt Q14.out.1.y_)) | (go_at_call 41; refine (model_clock Q14.out.1.nw.mw.md).mono ?_; rintro r w15 ⟨rfl, rfl⟩) | (go_at_call 34; go_loud ((with_reducible refine (COH.out _ _ _).mono ?_); rintro r w16 ⟨rfl, hb⟩; have Q15 := Aside0.mk (And.intro (Q14.out.1.step hb) (pw_own_below Q14.out.2 hb)); clear hb hcy hly Q14; have Q14 := Q15; clear Q15; have hcy := fun i => blk_cell Q14.out.1.y_ i; have hly := blk_lt Q14.out.1.y_)) | (go_at_call 33; go_loud ((first | (with_reducible refine (CSA.out _ _ Q14.out.1).mono ?_) | (with_reducible refine (CSB.out _ _ Q14.out.1).mono ?_)); rintro r w17 ⟨rfl, hb⟩; have Q15 := Aside0.mk (And.intro (Q14.out.1.step hb) (pw_own_below Q14.out.2 hb)); clear hb hcy hly Q14; have Q14 := Q15; clear Q15; have hcy := fun i => blk_cell Q14.out.1.y_ i; have hly := blk_lt Q14.out.1.y_)))
     have HQ0 := Q14
     go_loopw [88] (fun v wq => ∃ j : Nat, j ≤ L.length ∧ v = .int .i64 j ∧ Aside0 (Rw w wq b m1 m2 (3 * k + 3) m (.slice A2 L.length c2) L yb e ∧ RowIs wq w.heap.size 81 3 tmA (.slice A3 L.length c3) L)) (fun v _ => L.length - (intOf v).toNat)
     case atStart => exact ⟨0, by omega, rfl, HQ0⟩
     case round =>
      clear HQ0
      obtain ⟨j, hj, rfl, HJ⟩ := hrel
      rcases Nat.lt_or_ge j L.length with hjl | hjg
      ·have pj : (0 : Int) ≤ (j : Int) := by omega
       have qj : ((j : Int) < (L.length : Int)) = True := eq_true (by omega)
       have hjj : wrap64 ((j : Int) + 1) = ((j + 1 : Nat) : Int) := by have := HL.out; have := HK60.out; unfold wrap64; omega
       obtain ⟨x, hx⟩ : ∃ x, L[j]? = some x := ⟨_, List.getElem?_eq_getElem hjl⟩
       obtain ⟨gr, cp, hv, hcp, hgl, hcell⟩ := HJ.out.1.nw.row.at_ (fun _ => rfl) hx
       injection hv with hv1 hv2 hv3
       subst hv1
       obtain ⟨gs, cq, hw, hcq, hgm, hcels⟩ := HJ.out.2.at_ (fun _ => rfl) hx
       injection hw with hw1 hw2 hw3
       subst hw1
       have d0 := hcell 0 (by decide)
       have d1 := hcell 1 (by decide)
       have d2 := hcell 2 (by decide)
       rw [Nat.add_zero] at d0
       have d0 : wr.cell? ⟨gr, j * 3, none⟩ = some (.int .i64 x.1.1) := d0
       have d1 : wr.cell? ⟨gr, j * 3 + 1, none⟩ = some (.int .i64 x.1.2) := d1
       have d2 : wr.cell? ⟨gr, j * 3 + 2, none⟩ = some (.int .i64 x.2) := d2
       have t0 := hcels 0 (by decide)
       have t1 := hcels 1 (by decide)
       have t2 := hcels 2 (by decide)
       rw [Nat.add_zero] at t0
       have t0 : wr.cell? ⟨gs, j * 3, none⟩ = some (.int .i64 x.1.1) := t0
       have t1 : wr.cell? ⟨gs, j * 3 + 1, none⟩ = some (.int .i64 x.1.2) := t1
       have t2 : wr.cell? ⟨gs, j * 3 + 2, none⟩ = some (.int .i64 x.2) := t2
       have HJL := Aside0.mk hjl
       clear hcell hcp hv2 hv3 hcels hcq hw2 hw3 hx hjl hj
       replace pj := eq_true pj
       go_upto_region 19 with (fail)
       have HB9 := Aside0.mk (below_drew (Below.refl wr.heap.size wr))
       refine start_ (n := 9) (S := (fun w' => (w'.cell? ⟨gr, j * 3, none⟩ = some (.int .i64 x.1.1)) ∧ (w'.cell? ⟨gr, j * 3 + 1, none⟩ = some (.int .i64 x.1.2)) ∧ (w'.cell? ⟨gr, j * 3 + 2, none⟩ = some (.int .i64 x.2)) ∧ (w'.cell? ⟨gs, j * 3, none⟩ = some (.int .i64 x.1.1)) ∧ (w'.cell? ⟨gs, j * 3 + 1, none⟩ = some (.int .i64 x.1.2)) ∧ (w'.cell? ⟨gs, j * 3 + 2, none⟩ = some (.int .i64 x.2)))) (ds := []) #[ff,ff,ff,ff,ff,ff,ff,ff,ff] (by kernel_rfl) rfl rfl ⟨pw_cell_below HB9.out d0, pw_cell_below HB9.out d1, pw_cell_below HB9.out d2, pw_cell_below HB9.out t0, pw_cell_below HB9.out t1, pw_cell_below HB9.out t2⟩ (fun hHeld => ?_)
       refine with_tabW mrS.tab19 mrS.bits19 (fun HT_ HW_ => ?_)
       have HJ9 := Aside0.mk (And.intro (HJ.out.1.step HB9.out) (pw_own_below HJ.out.2 HB9.out))
       generalize wr.drew = w20 at HJ9 hHeld ⊢
       refine pure_ (i := 0) (N := (some 91)) (v := ?_) (a' := ?_) #[tt,ff,ff,ff,ff,ff,ff,ff,ff] rfl rfl (any_of HT_.out (by kernel_rfl)) (fun _ _ _ h => h) (Or.inl ⟨by rfl, ?_⟩) ?_ ?_
       rotate_left
       ·intro w'
        go_simp
        with_reducible rfl
       rotate_left
       ·simp only [Act.put, sQ0, sQ1, sQ2, i64_w]
        rfl
       refine pure_ (i := 1) (N := (some 92)) (v := ?_) (a' := ?_) #[tt,tt,ff,ff,ff,ff,ff,ff,ff] rfl rfl (any_of HT_.out (by kernel_rfl)) (fun _ _ _ h => h) (Or.inl ⟨by rfl, ?_⟩) ?_ ?_
       rotate_left
       ·intro w'
        go_simp
        with_reducible rfl
       rotate_left
       ·simp only [Act.put, sQ0, sQ1, sQ2, i64_w]
        rfl
       refine pure_ (i := 2) (N := (some 93)) (v := ?_) (a' := ?_) #[tt,tt,tt,ff,ff,ff,ff,ff,ff] rfl rfl (any_of HT_.out (by kernel_rfl)) (fun _ _ _ h => h) (Or.inl ⟨by rfl, ?_⟩) ?_ ?_
       rotate_left
       ·intro w'
        go_simp
        with_reducible rfl
       rotate_left
       ·simp only [Act.put, sQ0, sQ1, sQ2, i64_w]
        rfl
       refine pure_ (i := 4) (N := (some 95)) (v := ?_) (a' := ?_) #[tt,tt,tt,ff,tt,ff,ff,ff,ff] rfl rfl (any_of HT_.out (by kernel_rfl)) (fun _ _ _ h => h) (Or.inl ⟨by rfl, ?_⟩) ?_ ?_
       rotate_left
       ·intro w'
        go_simp
        with_reducible rfl
       rotate_left
       ·simp only [Act.put, sQ0, sQ1, sQ2, i64_w]
        rfl
       refine pure_ (i := 5) (N := (some 96)) (v := ?_) (a' := ?_) #[tt,tt,tt,ff,tt,tt,ff,ff,ff] rfl rfl (any_of HT_.out (by kernel_rfl)) (fun _ _ _ h => h) (Or.inl ⟨by rfl, ?_⟩) ?_ ?_
       rotate_left
       ·intro w'
        go_simp
        with_reducible rfl
       rotate_left
       ·simp only [Act.put, sQ0, sQ1, sQ2, i64_w]
        rfl
       refine pure_ (i := 6) (N := (some 97)) (v := ?_) (a' := ?_) #[tt,tt,tt,ff,tt,tt,tt,ff,ff] rfl rfl (any_of HT_.out (by kernel_rfl)) (fun _ _ _ h => h) (Or.inl ⟨by rfl, ?_⟩) ?_ ?_
       rotate_left
       ·intro w'
        go_simp
        with_reducible rfl
       rotate_left
       ·simp only [Act.put, sQ0, sQ1, sQ2, i64_w]
        rfl
       refine take_ (i := 3) (N := (some 94)) (v := ?_) (a' := ?_) #[tt,tt,tt,tt,tt,tt,tt,ff,ff] rfl rfl (take_ofW HT_.out HW_.out (by kernel_rfl)) (fun _ _ _ h => h) (Or.inl ⟨by rfl, ?_⟩) hHeld ?_ ?_
       rotate_left
       ·rintro w' ⟨s0, s1, s2, s3, s4, s5⟩
        go_simp
        with_reducible rfl
       rotate_left
       ·simp only [Act.put, sQ0, sQ1, sQ2, i64_w]
        rfl
       refine take_ (i := 7) (N := (some 98)) (v := ?_) (a' := ?_) #[tt,tt,tt,tt,tt,tt,tt,tt,ff] rfl rfl (take_ofW HT_.out HW_.out (by kernel_rfl)) (fun _ _ _ h => h) (Or.inl ⟨by rfl, ?_⟩) hHeld ?_ ?_
       rotate_left
       ·rintro w' ⟨s0, s1, s2, s3, s4, s5⟩
        go_simp
        with_reducible rfl
       rotate_left
       ·simp only [Act.put, sQ0, sQ1, sQ2, i64_w]
        rfl
       refine pure_ (i := 8) (N := (some 99)) (v := ?_) (a' := ?_) #[tt,tt,tt,tt,tt,tt,tt,tt,tt] rfl rfl (any_of HT_.out (by kernel_rfl)) (fun _ _ _ h => h) (Or.inl ⟨by rfl, ?_⟩) ?_ ?_
       rotate_left
       ·intro w'
        go_simp
        with_reducible rfl
       rotate_left
       ·simp only [Act.put, sQ0, sQ1, sQ2, i64_w]
        rfl
       refine done_ (done_of HT_.out (by kernel_rfl)) ?_
       clear hHeld
       go_wp2
       go_roundw
       case rel => exact ⟨j + 1, by have := HJL.out; omega, by first | rw [hjj] | simp, HJ9⟩
       case measure => have := HJL.out; first | (rw [hjj]; simp [intOf]; omega) | (simp [intOf]; omega)
      ·have qj : ((j : Int) < (L.length : Int)) = False := eq_false (by omega)
       clear hj hjg
       go_wp2
       go_roundw
       case rel => exact ⟨k + 1, m, by have := HKL.out; omega, by first | rw [hnn] | simp, ⟨by rw [show 3 * (k + 1) = 3 * k + 3 by omega]; exact HJ.out.1.nw.mw⟩⟩
       case measure => have := HKL.out; first | (rw [hnn]; simp [intOf]; omega) | (simp [intOf]; omega)
    ·have g1 : (c == 0) = false := beq_eq_false_iff_ne.2 h0
     clear hc h0
     go_upto_region 12 with (first | (go_at_call 30; go_loud ((with_reducible refine (CO.out e _).mono ?_); rintro r w11 ⟨rfl, hb⟩; have Q11 := Aside0.mk (Q10.out.step hb); clear hb hcy hly)) | (go_at_call 43; go_loud ((with_reducible refine (CDO.out _ Q11.out).mono ?_); rintro r w12 ⟨rfl, hq⟩; have Q12 := Aside0.mk hq; clear hq; have hcy := fun i => blk_cell Q12.out.y_ i; have hly := blk_lt Q12.out.y_)))
     have Q13 := Aside0.mk (HQ13.out _ Q12.out)
     go_wp2_with (first | (go_at_call 42; go_loud ((with_reducible refine (armed_any Q13.out.nw.mw.md (by have := HK60.out; omega)).mono ?_); rintro r w14 ⟨v, L2, rfl, hR, hA, hL, hb⟩; obtain ⟨A3, c3, rfl, hc3⟩ := hR.form; obtain rfl : L = L2 := (armed_uniq hA HA.out).symm; have Q14 := Aside0.mk (And.intro (Q13.out.step hb) (row_lower hR Q13.out.nw.mw.bel.size)); clear hR hA hL hb hc3 hcy hly; have hcy := fun i => blk_cell Q14.out.1.y_ i; have hly := blk_lt Q14.out.1.y_)) | (go_at_call 41; refine (model_clock Q14.out.1.nw.mw.md).mono ?_; rintro r w15 ⟨rfl, rfl⟩) | (go_at_call 34; go_loud ((with_reducible refine (COH.out _ _ _).mono ?_); rintro r w16 ⟨rfl, hb⟩; have Q15 := Aside0.mk (And.intro (Q14.out.1.step hb) (pw_own_below Q14.out.2 hb)); clear hb hcy hly Q14; have Q14 := Q15; clear Q15; have hcy := fun i => blk_cell Q14.out.1.y_ i; have hly := blk_lt Q14.out.1.y_)) | (go_at_call 33; go_loud ((first | (with_reducible refine (CSA.out _ _ Q14.out.1).mono ?_) | (with_reducible refine (CSB.out _ _ Q14.out.1).mono ?_)); rintro r w17 ⟨rfl, hb⟩; have Q15 := Aside0.mk (And.intro (Q14.out.1.step hb) (pw_own_below Q14.out.2 hb)); clear hb hcy hly Q14; have Q14 := Q15; clear Q15; have hcy := fun i => blk_cell Q14.out.1.y_ i; have hly := blk_lt Q14.out.1.y_)))
     have HQ0 := Q14
     go_loopw [88] (fun v wq => ∃ j : Nat, j ≤ L.length ∧ v = .int .i64 j ∧ Aside0 (Rw w wq b m1 m2 (3 * k + 3) m (.slice A2 L.length c2) L yb e ∧ RowIs wq w.heap.size 81 3 tmA (.slice A3 L.length c3) L)) (fun v _ => L.length - (intOf v).toNat)
     case atStart => exact ⟨0, by omega, rfl, HQ0⟩
     case round =>
      clear HQ0
      obtain ⟨j, hj, rfl, HJ⟩ := hrel
      rcases Nat.lt_or_ge j L.length with hjl | hjg
      ·have pj : (0 : Int) ≤ (j : Int) := by omega
       have qj : ((j : Int) < (L.length : Int)) = True := eq_true (by omega)
       have hjj : wrap64 ((j : Int) + 1) = ((j + 1 : Nat) : Int) := by have := HL.out; have := HK60.out; unfold wrap64; omega
       obtain ⟨x, hx⟩ : ∃ x, L[j]? = some x := ⟨_, List.getElem?_eq_getElem hjl⟩
       obtain ⟨gr, cp, hv, hcp, hgl, hcell⟩ := HJ.out.1.nw.row.at_ (fun _ => rfl) hx
       injection hv with hv1 hv2 hv3
       subst hv1
       obtain ⟨gs, cq, hw, hcq, hgm, hcels⟩ := HJ.out.2.at_ (fun _ => rfl) hx
       injection hw with hw1 hw2 hw3
       subst hw1
       have d0 := hcell 0 (by decide)
       have d1 := hcell 1 (by decide)
       have d2 := hcell 2 (by decide)
       rw [Nat.add_zero] at d0
       have d0 : wr.cell? ⟨gr, j * 3, none⟩ = some (.int .i64 x.1.1) := d0
       have d1 : wr.cell? ⟨gr, j * 3 + 1, none⟩ = some (.int .i64 x.1.2) := d1
       have d2 : wr.cell? ⟨gr, j * 3 + 2, none⟩ = some (.int .i64 x.2) := d2
       have t0 := hcels 0 (by decide)
       have t1 := hcels 1 (by decide)
       have t2 := hcels 2 (by decide)
       rw [Nat.add_zero] at t0
       have t0 : wr.cell? ⟨gs, j * 3, none⟩ = some (.int .i64 x.1.1) := t0
       have t1 : wr.cell? ⟨gs, j * 3 + 1, none⟩ = some (.int .i64 x.1.2) := t1
       have t2 : wr.cell? ⟨gs, j * 3 + 2, none⟩ = some (.int .i64 x.2) := t2
       have HJL := Aside0.mk hjl
       clear hcell hcp hv2 hv3 hcels hcq hw2 hw3 hx hjl hj
       replace pj := eq_true pj
       go_upto_region 19 with (fail)
       have HB9 := Aside0.mk (below_drew (Below.refl wr.heap.size wr))
       refine start_ (n := 9) (S := (fun w' => (w'.cell? ⟨gr, j * 3, none⟩ = some (.int .i64 x.1.1)) ∧ (w'.cell? ⟨gr, j * 3 + 1, none⟩ = some (.int .i64 x.1.2)) ∧ (w'.cell? ⟨gr, j * 3 + 2, none⟩ = some (.int .i64 x.2)) ∧ (w'.cell? ⟨gs, j * 3, none⟩ = some (.int .i64 x.1.1)) ∧ (w'.cell? ⟨gs, j * 3 + 1, none⟩ = some (.int .i64 x.1.2)) ∧ (w'.cell? ⟨gs, j * 3 + 2, none⟩ = some (.int .i64 x.2)))) (ds := []) #[ff,ff,ff,ff,ff,ff,ff,ff,ff] (by kernel_rfl) rfl rfl ⟨pw_cell_below HB9.out d0, pw_cell_below HB9.out d1, pw_cell_below HB9.out d2, pw_cell_below HB9.out t0, pw_cell_below HB9.out t1, pw_cell_below HB9.out t2⟩ (fun hHeld => ?_)
       refine with_tabW mrS.tab19 mrS.bits19 (fun HT_ HW_ => ?_)
       have HJ9 := Aside0.mk (And.intro (HJ.out.1.step HB9.out) (pw_own_below HJ.out.2 HB9.out))
       generalize wr.drew = w20 at HJ9 hHeld ⊢
       refine pure_ (i := 0) (N := (some 91)) (v := ?_) (a' := ?_) #[tt,ff,ff,ff,ff,ff,ff,ff,ff] rfl rfl (any_of HT_.out (by kernel_rfl)) (fun _ _ _ h => h) (Or.inl ⟨by rfl, ?_⟩) ?_ ?_
       rotate_left
       ·intro w'
        go_simp
        with_reducible rfl
       rotate_left
       ·simp only [Act.put, sQ0, sQ1, sQ2, i64_w]
        rfl
       refine pure_ (i := 1) (N := (some 92)) (v := ?_) (a' := ?_) #[tt,tt,ff,ff,ff,ff,ff,ff,ff] rfl rfl (any_of HT_.out (by kernel_rfl)) (fun _ _ _ h => h) (Or.inl ⟨by rfl, ?_⟩) ?_ ?_
       rotate_left
       ·intro w'
        go_simp
        with_reducible rfl
       rotate_left
       ·simp only [Act.put, sQ0, sQ1, sQ2, i64_w]
        rfl
       refine pure_ (i := 2) (N := (some 93)) (v := ?_) (a' := ?_) #[tt,tt,tt,ff,ff,ff,ff,ff,ff] rfl rfl (any_of HT_.out (by kernel_rfl)) (fun _ _ _ h => h) (Or.inl ⟨by rfl, ?_⟩) ?_ ?_
       rotate_left
       ·intro w'
        go_simp
        with_reducible rfl
       rotate_left
       ·simp only [Act.put, sQ0, sQ1, sQ2, i64_w]
        rfl
       refine pure_ (i := 4) (N := (some 95)) (v := ?_) (a' := ?_) #[tt,tt,tt,ff,tt,ff,ff,ff,ff] rfl rfl (any_of HT_.out (by kernel_rfl)) (fun _ _ _ h => h) (Or.inl ⟨by rfl, ?_⟩) ?_ ?_
       rotate_left
       ·intro w'
        go_simp
        with_reducible rfl
       rotate_left
       ·simp only [Act.put, sQ0, sQ1, sQ2, i64_w]
        rfl
       refine pure_ (i := 5) (N := (some 96)) (v := ?_) (a' := ?_) #[tt,tt,tt,ff,tt,tt,ff,ff,ff] rfl rfl (any_of HT_.out (by kernel_rfl)) (fun _ _ _ h => h) (Or.inl ⟨by rfl, ?_⟩) ?_ ?_
       rotate_left
       ·intro w'
        go_simp
        with_reducible rfl
       rotate_left
       ·simp only [Act.put, sQ0, sQ1, sQ2, i64_w]
        rfl
       refine pure_ (i := 6) (N := (some 97)) (v := ?_) (a' := ?_) #[tt,tt,tt,ff,tt,tt,tt,ff,ff] rfl rfl (any_of HT_.out (by kernel_rfl)) (fun _ _ _ h => h) (Or.inl ⟨by rfl, ?_⟩) ?_ ?_
       rotate_left
       ·intro w'
        go_simp
        with_reducible rfl
       rotate_left
       ·simp only [Act.put, sQ0, sQ1, sQ2, i64_w]
        rfl
       refine take_ (i := 3) (N := (some 94)) (v := ?_) (a' := ?_) #[tt,tt,tt,tt,tt,tt,tt,ff,ff] rfl rfl (take_ofW HT_.out HW_.out (by kernel_rfl)) (fun _ _ _ h => h) (Or.inl ⟨by rfl, ?_⟩) hHeld ?_ ?_
       rotate_left
       ·rintro w' ⟨s0, s1, s2, s3, s4, s5⟩
        go_simp
        with_reducible rfl
       rotate_left
       ·simp only [Act.put, sQ0, sQ1, sQ2, i64_w]
        rfl
       refine take_ (i := 7) (N := (some 98)) (v := ?_) (a' := ?_) #[tt,tt,tt,tt,tt,tt,tt,tt,ff] rfl rfl (take_ofW HT_.out HW_.out (by kernel_rfl)) (fun _ _ _ h => h) (Or.inl ⟨by rfl, ?_⟩) hHeld ?_ ?_
       rotate_left
       ·rintro w' ⟨s0, s1, s2, s3, s4, s5⟩
        go_simp
        with_reducible rfl
       rotate_left
       ·simp only [Act.put, sQ0, sQ1, sQ2, i64_w]
        rfl
       refine pure_ (i := 8) (N := (some 99)) (v := ?_) (a' := ?_) #[tt,tt,tt,tt,tt,tt,tt,tt,tt] rfl rfl (any_of HT_.out (by kernel_rfl)) (fun _ _ _ h => h) (Or.inl ⟨by rfl, ?_⟩) ?_ ?_
       rotate_left
       ·intro w'
        go_simp
        with_reducible rfl
       rotate_left
       ·simp only [Act.put, sQ0, sQ1, sQ2, i64_w]
        rfl
       refine done_ (done_of HT_.out (by kernel_rfl)) ?_
       clear hHeld
       go_wp2
       go_roundw
       case rel => exact ⟨j + 1, by have := HJL.out; omega, by first | rw [hjj] | simp, HJ9⟩
       case measure => have := HJL.out; first | (rw [hjj]; simp [intOf]; omega) | (simp [intOf]; omega)
      ·have qj : ((j : Int) < (L.length : Int)) = False := eq_false (by omega)
       clear hj hjg
       go_wp2
       go_roundw
       case rel => exact ⟨k + 1, m, by have := HKL.out; omega, by first | rw [hnn] | simp, ⟨by rw [show 3 * (k + 1) = 3 * k + 3 by omega]; exact HJ.out.1.nw.mw⟩⟩
       case measure => have := HKL.out; first | (rw [hnn]; simp [intOf]; omega) | (simp [intOf]; omega)
  ·have q0 : ((k : Int) < (l.length : Int)) = False := eq_false (by omega)
   clear hk hge
   go_wp2
   go_ret
   exact ⟨rfl, HI.out.bel⟩
end Go.Proofs.Ythniclbmpeklmaa.Mo
end
section
namespace Go.Proofs.Ythniclbmpeklmaa.KJf
open Go.RowKit Go.Proofs.YthniclbmpeklmaaW.PrintWords Go.Proofs.Ythniclbmpeklmaa.Ju
set_option linter.unusedVariables false
def toEv (x : S50) : Au.Ev := ⟨x.f0, x.f1, x.f2, x.f3.f0, x.f3.f1, x.f4.f0, x.f4.f1, x.f5, x.f6, x.f7, x.f8, x.f9⟩
theorem evs_in {A1 : Option Addr} {l1 : List S50} {w : World} (hr1 : Kd.C k50 w A1 l1.length l1) (i : Nat) (e : Au.Ev) (he : (l1.map toEv)[i]? = some e) : EvIn w A1 i e := by
 rw [List.getElem?_map] at he
 obtain ⟨z, hz, rfl⟩ := Option.map_eq_some_iff.1 he
 have hi : i < l1.length := (List.getElem?_eq_some_iff.1 hz).1
 have hrd : rd_T50 l1 (i : Int) = z := by
  show l1.getD i z50 = z
  rw [List.getD_eq_getElem?_getD, hz]; rfl
 have hat := at_T50 hr1 (i : Int) (by omega) (by omega)
 rw [hrd] at hat
 exact hat
theorem evs_wf {l1 : List S50} (hw : ∀ x ∈ l1, wfB' (toEv x) = true) (e : Au.Ev) (he : e ∈ l1.map toEv) : wfJ e := by
 obtain ⟨z, hz, rfl⟩ := List.mem_map.1 he
 exact wfJ_of (hw z hz)
end Go.Proofs.Ythniclbmpeklmaa.KJf
end
section
namespace Go.Proofs.Ythniclbmpeklmaa.KJf
open Go.RowKit Go.Proofs.YthniclbmpeklmaaW.PrintWords Go.Proofs.Ythniclbmpeklmaa.Ju
set_option linter.unusedVariables false
def knelllaw12_ModelRefuses.f (l1 : List S50) : Option Bool := if ∀ x ∈ l1, wfB' (toEv x) = true then some true else none
theorem knelllaw12_ModelRefuses.calls (A1 : Option Addr) (q1 : Nat) (l1 : List S50) (r : Bool) (w : World) (hr1 : Kd.C k50 w A1 l1.length l1) (hc1 : l1.length ≤ q1)
  (h : knelllaw12_ModelRefuses.f l1 = some r) :
  Calls Try.prog 12 #[.slice A1 l1.length q1] w fun e w' => e = .returned (.bool r) ∧ Below w.heap.size w w' := by
 unfold knelllaw12_ModelRefuses.f at h
 split at h
 ·rename_i hw
  obtain rfl := Option.some.inj h
  rcases Nat.lt_or_ge 60 l1.length with hn | hn
  ·exact Mo.refuses_long A1 _ q1 hn w
  ·have q := Mo.refuses_main A1 q1 (l1.map toEv) (by rw [List.length_map]; exact hn) w (evs_in hr1) (evs_wf hw)
   rw [List.length_map] at q
   exact q
 ·cases h
theorem ModelRefuses (l1 : List S50) (hw : ∀ x ∈ l1, wfB' (toEv x) = true) : knelllaw12_ModelRefuses.f l1 = some true := if_pos hw
end Go.Proofs.Ythniclbmpeklmaa.KJf
end
section
namespace Go.Proofs.Ythniclbmpeklmaa.Krow
open Go.ChangeShapes Go.WideShapes Go.Deep Go.Proofs.YthniclbmpeklmaaW.PrintWords
inductive Leaf where
 | int (k : IntKind)
 | bool
def Leaf.ok : Leaf → Value → Prop
 | .int k, v => ∃ n, v = .int k n ∧ (Lit.int k n).wf = true
 | .bool, v => ∃ b, v = .bool b
def Leaves : List Leaf → List Value → Prop
 | [], [] => True
 | l :: ls, v :: vs => l.ok v ∧ Leaves ls vs
 | _, _ => False
theorem Leaves.length : ∀ {ls : List Leaf} {vs : List Value}, Leaves ls vs → vs.length = ls.length
 | [], [], _ => rfl
 | _ :: _, _ :: _, h => by simp [Leaves.length h.2]
theorem Leaves.append : ∀ {a b : List Leaf} {vs ws : List Value}, Leaves a vs → Leaves b ws → Leaves (a ++ b) (vs ++ ws)
 | [], _, [], _, _, h => h
 | _ :: _, _, _ :: _, _, h, h' => ⟨h.1, Leaves.append h.2 h'⟩
theorem Leaves.int {k : IntKind} {ls : List Leaf} {vs : List Value} (h : Leaves (.int k :: ls) vs) : ∃ n r, vs = .int k n :: r ∧ (Lit.int k n).wf = true ∧ Leaves ls r := by
 match vs, h with
 | _ :: r, ⟨⟨n, rfl, hw⟩, h⟩ => exact ⟨n, r, rfl, hw, h⟩
theorem Leaves.boole {ls : List Leaf} {vs : List Value} (h : Leaves (.bool :: ls) vs) : ∃ b r, vs = .bool b :: r ∧ Leaves ls r := by
 match vs, h with
 | _ :: r, ⟨⟨b, rfl⟩, h⟩ => exact ⟨b, r, rfl, h⟩
theorem Leaves.nil {vs : List Value} (h : Leaves [] vs) : vs = [] := by
 match vs, h with
 | [], _ => rfl
theorem collect {α : Type} {p : Nat → α → Prop} {len : Nat} (key : ∀ i, i < len → ∃ x : α, p i x) : ∃ l : List α, l.length = len ∧ ∀ i x, l[i]? = some x → p i x := by
 induction len with
 | zero => exact ⟨[], rfl, fun i x h => by simp at h⟩
 | succ len ih =>
  obtain ⟨l, hl, hx⟩ := ih (fun i hi => key i (by omega))
  obtain ⟨x, hp⟩ := key len (by omega)
  refine ⟨l ++ [x], by simp [hl], fun i y hy => ?_⟩
  by_cases hi : i < len
  ·rw [List.getElem?_append_left (by omega)] at hy
   exact hx i y hy
  ·rw [List.getElem?_append_right (by omega)] at hy
   have : i - l.length = 0 := by
    have := (List.getElem?_eq_some_iff.1 hy).1
    simp at this
    omega
   rw [this] at hy
   obtain rfl : x = y := by simpa using hy
   obtain rfl : i = len := by omega
   exact hp
def fieldsOf (f : TypeId → Option (List Leaf)) (P : Program) : List Field → Nat → Option (List Leaf)
 | [], _ => some []
 | x :: r, off => (f x.type).bind fun ls => if x.offset = off ∧ P.cellsOf x.type = ls.length then (fieldsOf f P r (off + ls.length)).map (ls ++ ·) else none
def plainOf (P : Program) : Nat → TypeId → Option (List Leaf)
 | 0, _ => none
 | n + 1, t => match P.underlying t with
  | some (.int k) => some [.int k]
  | some .bool => some [.bool]
  | some (.struct fs) => (fieldsOf (plainOf P n) P fs.toList 0).bind fun ls => if P.cellsOf t = ls.length then some ls else none
  | some (.array m e) => (plainOf P n e).bind fun ls => if P.cellsOf e = ls.length ∧ P.cellsOf t = m * ls.length then some ((List.replicate m ls).flatten) else none
  | _ => none
section
variable {H : Type} {enc : TypeId × Value → H} {P : Program} {w : World} {base : Nat} {spare : Nat → Bool} {held : Bool}
theorem fields_leaves {n : Nat} (ih : ∀ (t : TypeId) (ls : List Leaf) (fuel : Nat) (cs : List Value) (x : DataW H × List MemPlace), plainOf P n t = some ls → DataW.trod enc P w base spare held fuel t cs = some x → Leaves ls cs) (cs : List Value) (m : Nat) :
  ∀ (fs : List Field) (off : Nat) (ls : List Leaf), (∀ (i : Nat) (f : Field), fs[i]? = some f → ∃ x, DataW.trod enc P w base spare held m f.type ((cs.drop f.offset).take (P.cellsOf f.type)) = some x) →
   fieldsOf (plainOf P n) P fs off = some ls → Leaves ls ((cs.drop off).take ls.length) := by
 intro fs
 induction fs with
 | nil =>
  intro off ls _ h
  simp only [fieldsOf, Option.some.injEq] at h
  subst h
  simp [Leaves]
 | cons f r ihr =>
  intro off ls hx h
  simp only [fieldsOf] at h
  obtain ⟨l1, h1, h⟩ := Option.bind_eq_some_iff.1 h
  by_cases hc : f.offset = off ∧ P.cellsOf f.type = l1.length
  ·rw [if_pos hc] at h
   obtain ⟨l2, h2, rfl⟩ := Option.map_eq_some_iff.1 h
   obtain ⟨x, hx0⟩ := hx 0 f rfl
   rw [hc.1, hc.2] at hx0
   have a1 := ih f.type l1 m _ x h1 hx0
   have a2 := ihr (off + l1.length) l2 (fun i g hg => hx (i + 1) g hg) h2
   have e : (cs.drop off).take (l1 ++ l2).length = (cs.drop off).take l1.length ++ (cs.drop (off + l1.length)).take l2.length := by
    rw [List.length_append, List.take_add, List.drop_drop]
   rw [e]
   exact a1.append a2
  ·rw [if_neg hc] at h
   cases h
theorem blocks_leaves (ls : List Leaf) (cs : List Value) : ∀ (m off : Nat), (∀ i, i < m → Leaves ls ((cs.drop ((off + i) * ls.length)).take ls.length)) → Leaves ((List.replicate m ls).flatten) ((cs.drop (off * ls.length)).take (m * ls.length)) := by
 intro m
 induction m with
 | zero => intro off _; simp [Leaves]
 | succ m ih =>
  intro off h
  have a1 := h 0 (by omega)
  have a2 := ih (off + 1) (fun i hi => by have := h (i + 1) (by omega); rw [show off + 1 + i = off + (i + 1) by omega]; exact this)
  rw [Nat.add_zero] at a1
  rw [List.replicate_succ, List.flatten_cons, show (m + 1) * ls.length = ls.length + m * ls.length by rw [Nat.add_mul]; omega, List.take_add, List.drop_drop, show off * ls.length + ls.length = (off + 1) * ls.length by rw [Nat.add_mul]; omega]
  exact a1.append a2
theorem plain_trod : ∀ (n : Nat) (t : TypeId) (ls : List Leaf) (fuel : Nat) (cs : List Value) (x : DataW H × List MemPlace), plainOf P n t = some ls → DataW.trod enc P w base spare held fuel t cs = some x → Leaves ls cs := by
 intro n
 induction n with
 | zero => intro t ls fuel cs x h; cases h
 | succ n ih =>
  intro t ls fuel cs x h hx
  unfold plainOf at h
  split at h
  ·rename_i k hu
   obtain rfl := Option.some.inj h
   obtain ⟨a, rfl, _, hw⟩ := DataW.trod_int hu hx
   exact ⟨⟨a, rfl, hw⟩, trivial⟩
  ·rename_i hu
   obtain rfl := Option.some.inj h
   obtain ⟨b, rfl, _⟩ := DataW.trod_bool hu hx
   exact ⟨⟨b, rfl⟩, trivial⟩
  ·rename_i fs hu
   obtain ⟨l, h1, h⟩ := Option.bind_eq_some_iff.1 h
   by_cases hc : P.cellsOf t = l.length
   ·rw [if_pos hc] at h
    obtain rfl := Option.some.inj h
    obtain ⟨xs, m, _, _, hl, hlen, hf⟩ := DataW.trod_struct hu hx
    have := fields_leaves ih cs m fs.toList 0 l (fun i f hi => by
     have hi' : fs[i]? = some f := by simpa using hi
     rw [hf i f hi']
     have : i < xs.length := by rw [hlen]; exact (Array.getElem?_eq_some_iff.1 hi').1
     exact ⟨_, List.getElem?_eq_getElem this⟩) h1
    rw [List.drop_zero, List.take_of_length_le (by omega)] at this
    exact this
   ·rw [if_neg hc] at h
    cases h
  ·rename_i m e hu
   obtain ⟨l, h1, h⟩ := Option.bind_eq_some_iff.1 h
   by_cases hc : P.cellsOf e = l.length ∧ P.cellsOf t = m * l.length
   ·rw [if_pos hc] at h
    obtain rfl := Option.some.inj h
    obtain ⟨xs, q, _, _, hl, hlen, hf⟩ := DataW.trod_array hu hx
    have := blocks_leaves l cs m 0 (fun i hi => by
     have h2 := hf i hi
     rw [List.getElem?_eq_getElem (by omega), hc.1] at h2
     rw [Nat.zero_add]
     exact ih e l q _ _ h1 h2)
    rw [Nat.zero_mul, List.drop_zero, List.take_of_length_le (by omega)] at this
    exact this
   ·rw [if_neg hc] at h
    cases h
  ·cases h
theorem open_plain {r : Reach} {b0 : Nat} {t : TypeId} {v : Value} {d : DataW H} {ps : List MemPlace} {n : Nat} {ls : List Leaf} (hp : plainOf P n t = some ls) (ha : (match P.underlying t with | some (.struct _) | some (.array _ _) => true | _ => false) = true)
  (hv : Value.okWide P w r b0 t v) (h : DataW.Trod enc P w base spare held t v d ps) : ∃ cs : List Value, v = .agg cs.toArray ∧ Leaves ls cs := by
 obtain ⟨fuel, hf⟩ := h
 unfold Value.okWide at hv
 have key : ∃ cs, v = .agg cs := by
  split at hv
  ·obtain ⟨cs, h1, _⟩ := hv; exact ⟨cs, h1⟩
  ·obtain ⟨cs, h1, _⟩ := hv; exact ⟨cs, h1⟩
  ·rename_i h1 h2
   split at ha
   ·rename_i fs he; exact absurd he (h1 fs)
   ·rename_i a e he; exact absurd he (h2 a e)
   ·cases ha
 obtain ⟨cs, rfl⟩ := key
 have h2 := plain_trod n t ls fuel _ _ hp hf
 exact ⟨cs.toList, by simp, by simpa [Value.cells] using h2⟩
theorem open_rows {α : Type} (D : Kd α) (good : α → Prop) {r : Reach} {b0 : Nat} {t e : TypeId} {v : Value} {d : DataW H} {ps : List MemPlace} {n : Nat} {ls : List Leaf} (hu : P.underlying t = some (.slice e)) (hp : plainOf P n e = some ls) (hc : P.cellsOf e = ls.length) (hsz : D.sz = ls.length)
  (mk : ∀ cs : List Value, Leaves ls cs → ∃ x : α, D.K w x cs ∧ good x)
  (hv : Value.okWide P w r b0 t v) (h : DataW.Trod enc P w base spare held t v d ps) :
  ∃ (A : Option Addr) (c : Nat) (l : List α), v = .slice A l.length c ∧ l.length ≤ c ∧ l.length ≤ 9223372036854775807 ∧ Kd.C D w A l.length l ∧ ∀ x ∈ l, good x := by
 obtain ⟨A, len, cap, rfl⟩ := okWide_slice hu hv
 obtain ⟨fuel, hf⟩ := h
 rcases open_slice hu hf with ⟨hcs, _⟩ | ⟨a, len', cap', m, q, Ds, Pl, hcs, _, hl, hm, hmm, _, hi⟩
 ·simp [Value.cells] at hcs
  obtain ⟨rfl, rfl, rfl⟩ := hcs
  exact ⟨none, 0, [], rfl, Nat.le_refl _, by simp, ⟨rfl, by simp, fun h => absurd h (by simp)⟩, by simp⟩
 ·simp [Value.cells] at hcs
  obtain ⟨rfl, rfl, rfl⟩ := hcs
  have hlm : len ≤ m := by
   rw [hmm]
   split
   ·exact hl
   ·exact Nat.le_refl _
  have key : ∀ i, i < len → ∃ (x : α) (cs : List Value), D.K w x cs ∧ good x ∧ cs.length = ls.length ∧ ∀ j u, cs[j]? = some u → w.cell? (a.add (i * ls.length + j)) = some u := by
   intro i hil
   obtain ⟨cs', h1, h2⟩ := hi i (by omega)
   rw [hc] at h1
   obtain ⟨_, hlen, hcell⟩ := World.cells?_some h1
   obtain ⟨x, hx, hg⟩ := mk cs' (plain_trod n e ls q cs' _ hp h2)
   refine ⟨x, cs', hx, hg, hlen, fun j u hu => ?_⟩
   have hj : j < ls.length := by rw [← hlen]; exact (List.getElem?_eq_some_iff.1 hu).1
   rw [← Go.Deep.add_add, hcell j hj, hu]
  have ch := collect key
  obtain ⟨l, rfl, hx⟩ := ch
  have hm' : cap ≤ 9223372036854775807 := hm
  refine ⟨some a, cap, l, rfl, hl, by omega, ⟨rfl, by omega, fun _ => ⟨a, rfl, fun j p hj => ?_⟩⟩, fun x hxl => ?_⟩
  ·obtain ⟨cs, h1, _, h3, h4⟩ := hx j p hj
   refine ⟨cs, by rw [h3, hsz], h1, ?_⟩
   rw [hsz]
   exact h4
  ·obtain ⟨i, hi⟩ := List.mem_iff_getElem?.1 hxl
   obtain ⟨_, _, h2, _⟩ := hx i x hi
   exact h2
end
end Go.Proofs.Ythniclbmpeklmaa.Krow
end
