/- What is proved: a part of the way to the statement ModelOnceSaid: MoG, KJfx0, KJfx1, KJfx2, MoH, KJfx8, MoJ, MoL, MoM, MoI, MoN, Krow; no conditions. Put together by a program of this session (claimv.py). -/
import Derived.Test.YthniclbmpeklmaaProg
import Derived.Below
import Derived.Deep.Draws
import Derived.Deep.AppendLies
import Derived.Maps.AppendAt
import Derived.OwnWalk
import Derived.Laws.BytesArg
import Derived.Laws.MakeOwn
import Derived.Laws.OwnMore
import Derived.Deep.OwnRows
import Derived.Tactics
import Derived.Lib.ConvBytes
import Derived.Laws.Slices
import Derived.WalkKit
import Derived.KernelRfl
import Derived.RowKit3
import Derived.Deep.LoopGhost
import Derived.Deep.QuietTactic
import Derived.BigQuiet
import Derived.WideLaws
import Derived.Deep.DeepCutAuto
import Derived.Deep.CutBlock
import Derived.Deep.RegionHeld3
import Derived.Laws.Rows
import Derived.Lib.AppendStr
import Derived.ArgAppend
import Derived.Laws.IdiomCopy
import Derived.OrdersHeld
import Derived.Laws.BitsLemmas
import Derived.RowKit
import Derived.ChangeArms
import Derived.WideShapes
import Derived.OpenShut
import Derived.Deep.Slices
import Derived.Test.YthniclbmpeklmaaVmo2
section
namespace Go.Proofs.Ythniclbmpeklmaa.Mo
open Go.RowKit Go.Maps Go.Proofs.YthniclbmpeklmaaW.PrintWords Go.Proofs.YthniclbmpeklmaaW.PrintLast Go.Proofs.YthniclbmpeklmaaW.PrintMore Go.Proofs.Ythniclbmpeklmaa.Mp Go.Proofs.Ythniclbmpeklmaa.Ju
open Go.Proofs.Ythniclbmpeklmaa.Au (Ha RowIs flat_get flat_len haV lawH types_ne evA Ev Fr)
set_option linter.unusedVariables false
set_option linter.unusedSimpArgs false
def NonNeg (m : Md) : Prop := ∀ h d, m.fat h = some (1, d) → 0 ≤ d
theorem right_t {e : Ev} (h : rightJ e = true) (hk : e.k = 3) : 0 ≤ e.t := by
 unfold rightJ Ev.evRight at h
 rw [hk] at h
 simp at h
 omega
theorem nn_end {m : Md} (h : NonNeg m) (x : Ha) (s : Int) (hs : s ≠ 1) : NonNeg (m.end_ x s) := fun y d q => by
 rw [end_fat] at q
 by_cases e : y = x
 ·rw [if_pos e] at q; exact absurd (congrArg Prod.fst (Option.some.inj q)) hs
 ·rw [if_neg e] at q; exact h y d q
theorem nn_arm {m : Md} (h : NonNeg m) (x : Ha) {t : Int} (ht : 0 ≤ t) : NonNeg (m.arm x t) := fun y d q => by
 rw [arm_fat] at q
 by_cases e : y = x
 ·rw [if_pos e] at q
  have := congrArg Prod.snd (Option.some.inj q)
  simp at this
  omega
 ·rw [if_neg e] at q; exact h y d q
theorem do_fail {m : Md} {e : Ev} (h : (doF m e).2 ≠ 0) : (doF m e).1 = m := by
 unfold doF pointF at h ⊢
 repeat' split
 all_goals first
  | rfl
  | (simp_all; done)
structure MOk (m : Md) : Prop where
 inv : MInv m
 nn : NonNeg m
 lst : LstOk m
theorem MOk0 : MOk md0 := ⟨MInv0, fun h d q => by simp [md0] at q, fun x => by rfl⟩
theorem MOk.step {m : Md} (h : MOk m) {e : Ev} (hw : wfJ e) : MOk (doF m e).1 := by
 by_cases hz : (doF m e).2 = 0
 ·obtain ⟨hr, hd⟩ := did hz
  refine ⟨h.inv.did hr hw.1.2.1 hd, ?_, lst_do h.lst hw⟩
  generalize (doF m e).1 = m' at hd
  cases hd with
  | tick hk ht => exact h.nn
  | fire hk ha hd hc => exact nn_end h.nn _ _ (by decide)
  | cancel hk ho hy ha => exact nn_end h.nn _ _ (by decide)
  | same hk hm he => exact h.nn
  | start hk ho he hs => exact nn_arm h.nn _ (right_t hr hk)
  | rearm hk ho he ha h1 h2 => exact nn_arm (nn_end h.nn _ _ (by decide)) _ (right_t hr hk)
 ·rw [do_fail hz]; exact h
theorem MdIs.lower {w : World} {B B' b n m1 m2 : Nat} {m : Md} (h : MdIs w B b n m m1 m2) (hB : B' ≤ B) : MdIs w B' b n m m1 m2 := ⟨h.blk, h.mf, h.ml, Nat.le_trans hB h.hb, Nat.le_trans hB h.h1, Nat.le_trans hB h.h2, h.m12⟩
def spS : Ev := ⟨3, 0, 1, 0, 0, 0, 1, 1, 0, 0, false, 0⟩
def spF : Ev := ⟨4, 0, 0, 0, 1, 0, 0, 1, 0, 0, false, 0⟩
def spT : Ev := ⟨1, 0, 0, 0, 0, 0, 0, 1, 0, 0, false, 0⟩
def sp1 : Md := (doF md0 spS).1
def sp2 : Md := (doF sp1 spF).1
def sp3 : Md := (doF sp2 spT).1
def sp4 : Md := (doF sp3 spF).1
theorem sp_is : (doF md0 spS).2 = 0 ∧ (doF sp1 spF).2 = 6 ∧ (doF sp2 spT).2 = 0 ∧ (doF sp3 spF).2 = 0 ∧ (doF sp4 spF).2 = 6 := by decide +kernel
structure Mw (w W : World) (b m1 m2 n : Nat) (m : Md) : Prop where
 md : MdIs W w.heap.size b n m m1 m2
 bel : Below w.heap.size w W
 ok : MOk m
theorem Mw.step {w W W1 : World} {b m1 m2 n : Nat} {m : Md} (h : Mw w W b m1 m2 n m) (hb : Below W.heap.size W W1) : Mw w W1 b m1 m2 n m := ⟨h.md.below hb, below_step h.bel hb, h.ok⟩
theorem Mw.alloc {w W : World} {b m1 m2 n : Nat} {m : Md} (h : Mw w W b m1 m2 n m) (o : Obj) : Mw w (W.alloc o) b m1 m2 n m := h.step (below_alloc (Below.refl _ _) o)
theorem Mw.doing {w W : World} {b m1 m2 n : Nat} {m : Md} (h : Mw w W b m1 m2 n m) (hn : n + 1 ≤ 1000000) {e : Ev} (hw : wfJ e) :
  Calls Try.prog 43 #[pA b, .agg (evA e)] W fun r w' => r = .returned (.int .i64 (doF m e).2) ∧ Mw w w' b m1 m2 (n + 3) (doF m e).1 ∧ Fr W w' (mdS b m1 m2) := by
 refine (do_any e hw.1 hn h.ok.lst h.md).mono ?_
 rintro r w' ⟨h1, h2, h3⟩
 refine ⟨h1, ⟨h2.up (by omega), h.bel.trans (h3.below h.bel.size ?_), h.ok.step hw⟩, h3⟩
 rintro g (q | q | q)
 ·rw [q]; exact h.md.hb
 ·rw [q]; exact h.md.h1
 ·rw [q]; exact h.md.h2
theorem fr_cells {W W1 : World} {B b n m1 m2 g : Nat} {m : Md} {cs : Array Value} {t : TypeId} (hf : Fr W W1 (mdS b m1 m2)) (h : MdIs W B b n m m1 m2) (hg : W.heap[g]? = some (.cells cs t (0, 0))) (ht : t ≠ 125) : W1.heap[g]? = some (.cells cs t (0, 0)) := by
 refine hf.blk hg ?_
 rintro (q | q | q)
 ·exact types_ne hg h.blk ht q
 ·obtain ⟨z, _, hz⟩ := h.mf; obtain ⟨_, _, hq⟩ := hz.block; exact Go.Proofs.Ythniclbmpeklmaa.Au.map_ne hg hq q
 ·obtain ⟨z, _, hz⟩ := h.ml; obtain ⟨_, _, hq⟩ := hz.block; exact Go.Proofs.Ythniclbmpeklmaa.Au.map_ne hg hq q
set_option maxHeartbeats 8000000 in
set_option maxRecDepth 100000 in
theorem speaks12 (w : World) : Calls Try.prog 39 #[] w fun r w' => r = .returned (.bool true) ∧ Below w.heap.size w w' := by
 have hu2 := Try.underlying34
 have hu3 := Try.underlying54
 have CN := Aside0.mk (model_new w)
 have HR := Aside0.mk sp_is
 have D1 : Aside0 (∀ W b m1 m2, Mw w W b m1 m2 0 md0 → Calls Try.prog 43 #[pA b, .agg #[.int .i64 3, .int .i64 0, .int .i64 1, .int .i64 0, .int .i64 0, .int .i64 0, .int .i64 1, .int .i64 1, .int .i64 0, .int .i64 0, .bool false, .int .i64 0]] W fun r w' => r = .returned (.int .i64 0) ∧ Mw w w' b m1 m2 3 sp1 ∧ Fr W w' (mdS b m1 m2)) := ⟨fun W b m1 m2 h => by have q := h.doing (e := spS) (by omega) (wfJ_of (by decide)); rw [HR.out.1] at q; exact q⟩
 have D2 : Aside0 (∀ W b m1 m2, Mw w W b m1 m2 3 sp1 → Calls Try.prog 43 #[pA b, .agg #[.int .i64 4, .int .i64 0, .int .i64 0, .int .i64 0, .int .i64 1, .int .i64 0, .int .i64 0, .int .i64 1, .int .i64 0, .int .i64 0, .bool false, .int .i64 0]] W fun r w' => r = .returned (.int .i64 6) ∧ Mw w w' b m1 m2 6 sp2 ∧ Fr W w' (mdS b m1 m2)) := ⟨fun W b m1 m2 h => by have q := h.doing (e := spF) (by omega) (wfJ_of (by decide)); rw [HR.out.2.1] at q; exact q⟩
 have D3 : Aside0 (∀ W b m1 m2, Mw w W b m1 m2 6 sp2 → Calls Try.prog 43 #[pA b, .agg #[.int .i64 1, .int .i64 0, .int .i64 0, .int .i64 0, .int .i64 0, .int .i64 0, .int .i64 0, .int .i64 1, .int .i64 0, .int .i64 0, .bool false, .int .i64 0]] W fun r w' => r = .returned (.int .i64 0) ∧ Mw w w' b m1 m2 9 sp3 ∧ Fr W w' (mdS b m1 m2)) := ⟨fun W b m1 m2 h => by have q := h.doing (e := spT) (by omega) (wfJ_of (by decide)); rw [HR.out.2.2.1] at q; exact q⟩
 have D4 : Aside0 (∀ W b m1 m2, Mw w W b m1 m2 9 sp3 → Calls Try.prog 43 #[pA b, .agg #[.int .i64 4, .int .i64 0, .int .i64 0, .int .i64 0, .int .i64 1, .int .i64 0, .int .i64 0, .int .i64 1, .int .i64 0, .int .i64 0, .bool false, .int .i64 0]] W fun r w' => r = .returned (.int .i64 0) ∧ Mw w w' b m1 m2 12 sp4 ∧ Fr W w' (mdS b m1 m2)) := ⟨fun W b m1 m2 h => by have q := h.doing (e := spF) (by omega) (wfJ_of (by decide)); rw [HR.out.2.2.2.1] at q; exact q⟩
 have D5 : Aside0 (∀ W b m1 m2, Mw w W b m1 m2 12 sp4 → Calls Try.prog 43 #[pA b, .agg #[.int .i64 4, .int .i64 0, .int .i64 0, .int .i64 0, .int .i64 1, .int .i64 0, .int .i64 0, .int .i64 1, .int .i64 0, .int .i64 0, .bool false, .int .i64 0]] W fun r w' => r = .returned (.int .i64 6) ∧ Below w.heap.size w w') := ⟨fun W b m1 m2 h => by have q := h.doing (e := spF) (by omega) (wfJ_of (by decide)); rw [HR.out.2.2.2.2] at q; exact q.mono fun _ _ h => ⟨h.1, h.2.1.bel⟩⟩
 go_enter Try.func39, Try.ntmps39
 go_upto_region 4 with (go_at_call 40; (with_reducible refine CN.out.mono ?_); rintro r w2 ⟨rfl, hmd, hb⟩; have H2 := Aside0.mk (show Mw w w2 (w.heap.size + 1 + 1) w.heap.size (w.heap.size + 1) 0 md0 from ⟨hmd, hb, MOk0⟩); clear hmd hb)
 have H3 := Aside0.mk (And.intro (H2.out.alloc (.cells #[.int .i64 0, .int .i64 1] 34)) (blk_new w2 (.cells #[.int .i64 0, .int .i64 1] 34)))
 have hl := blk_lt H3.out.2
 have hc := fun i => blk_cell H3.out.2 i
 go_upto_region 6 with (go_at_call 43; (with_reducible refine (D1.out _ _ _ _ H3.out.1).mono ?_); rintro r w3 ⟨rfl, hm, hf⟩; have H4 := Aside0.mk (And.intro hm (fr_cells hf H3.out.1.md H3.out.2 (by decide))); clear hm hf hl hc; have hl := blk_lt H4.out.2; have hc := fun i => blk_cell H4.out.2 i)
 have H5 := Aside0.mk (And.intro (H4.out.1.alloc (.cells #[.int .i64 4, .int .i64 0, .int .i64 0, .int .i64 0, .int .i64 1, .int .i64 0, .int .i64 0, .int .i64 1, .int .i64 0, .int .i64 0, .bool false, .int .i64 0] 54)) (blk_new w3 (.cells #[.int .i64 4, .int .i64 0, .int .i64 0, .int .i64 0, .int .i64 1, .int .i64 0, .int .i64 0, .int .i64 1, .int .i64 0, .int .i64 0, .bool false, .int .i64 0] 54)))
 go_upto_region 7 with (fail)
 clear hl hc
 have hl := blk_lt H5.out.2
 have hc := fun i => blk_cell H5.out.2 i
 go_upto_region 8 with (go_at_call 43; (with_reducible refine (D2.out _ _ _ _ H5.out.1).mono ?_); rintro r w4 ⟨rfl, hm, hf⟩; have H6 := Aside0.mk (And.intro hm (fr_cells hf H5.out.1.md H5.out.2 (by decide))); clear hm hf hl hc)
 go_upto_region 9 with (go_at_call 43; (with_reducible refine (D3.out _ _ _ _ H6.out.1).mono ?_); rintro r w5 ⟨rfl, hm, hf⟩; have H7 := Aside0.mk (And.intro hm (fr_cells hf H6.out.1.md H6.out.2 (by decide))); clear hm hf)
 have hl := blk_lt H7.out.2
 have hc := fun i => blk_cell H7.out.2 i
 go_wp2_with (first
  | (go_at_call 43; (with_reducible refine (D4.out _ _ _ _ H7.out.1).mono ?_); rintro r w6 ⟨rfl, hm, hf⟩; have H8 := Aside0.mk (And.intro hm (fr_cells hf H7.out.1.md H7.out.2 (by decide))); clear hm hf hl hc H7; have hl := blk_lt H8.out.2; have hc := fun i => blk_cell H8.out.2 i)
  | (go_at_call 43; (with_reducible refine (D5.out _ _ _ _ H8.out.1).mono ?_); rintro r w7 ⟨rfl, hb⟩; have H9 := Aside0.mk hb; clear hb))
 go_ret
 exact ⟨rfl, H9.out⟩
end Go.Proofs.Ythniclbmpeklmaa.Mo
end
section
namespace Go.Proofs.Ythniclbmpeklmaa.KJf
open Go.RowKit Go.Proofs.YthniclbmpeklmaaW.PrintWords Go.Proofs.YthniclbmpeklmaaW.PrintLast Go.Proofs.YthniclbmpeklmaaW.PrintMore
attribute [local go_sem] max2_int min2_int max_two min_two max_three min_three max_four min_four   -- for this text's walks alone
set_option linter.unusedVariables false
set_option linter.unusedSimpArgs false
def errW : Option Int → Value
 | none => .nilIface
 | some c => .iface 0 (.int .i64 c)
theorem errW_none : errW none = .nilIface := rfl
theorem errW_some (c : Int) : errW (some c) = .iface 0 (.int .i64 c) := rfl
structure S36 where
 f0 : Int
 f1 : Int
def z36 : S36 := ⟨(0 : Int), (0 : Int)⟩
def k36 : Kd S36 := Kd.iso (Kd.pair (Kd.int .i64) (Kd.int .i64)) (fun x : S36 => (x.f0, x.f1))
theorem k36_open {w : World} {x : S36} {cs : List Value} (h : k36.K w x cs) : cs = [.int .i64 x.f0, .int .i64 x.f1] := by
 obtain ⟨_, _, rfl, rfl, rfl⟩ := h
 exact rfl
theorem k36_mk (w : World) (x : S36)  : k36.K w x [.int .i64 x.f0, .int .i64 x.f1] := ⟨[.int .i64 x.f0], [.int .i64 x.f1], rfl, rfl, rfl⟩
structure S50 where
 f0 : Int
 f1 : Int
 f2 : Int
 f3 : S36
 f4 : S36
 f5 : Int
 f6 : Int
 f7 : Int
 f8 : Bool
 f9 : Int
def z50 : S50 := ⟨(0 : Int), (0 : Int), (0 : Int), z36, z36, (0 : Int), (0 : Int), (0 : Int), false, (0 : Int)⟩
def k50 : Kd S50 := Kd.iso (Kd.pair (Kd.int .i64) (Kd.pair (Kd.int .i64) (Kd.pair (Kd.int .i64) (Kd.pair k36 (Kd.pair k36 (Kd.pair (Kd.int .i64) (Kd.pair (Kd.int .i64) (Kd.pair (Kd.int .i64) (Kd.pair Kd.bool (Kd.int .i64)))))))))) (fun x : S50 => (x.f0, x.f1, x.f2, x.f3, x.f4, x.f5, x.f6, x.f7, x.f8, x.f9))
theorem k50_open {w : World} {x : S50} {cs : List Value} (h : k50.K w x cs) : cs = [.int .i64 x.f0, .int .i64 x.f1, .int .i64 x.f2, .int .i64 x.f3.f0, .int .i64 x.f3.f1, .int .i64 x.f4.f0, .int .i64 x.f4.f1, .int .i64 x.f5, .int .i64 x.f6, .int .i64 x.f7, .bool x.f8, .int .i64 x.f9] := by
 obtain ⟨_, _, rfl, rfl, ⟨_, _, rfl, rfl, ⟨_, _, rfl, rfl, ⟨_, _, rfl, s3, ⟨_, _, rfl, s5, ⟨_, _, rfl, rfl, ⟨_, _, rfl, rfl, ⟨_, _, rfl, rfl, ⟨_, _, rfl, rfl, rfl⟩⟩⟩⟩⟩⟩⟩⟩⟩ := h
 obtain rfl := k36_open s3
 obtain rfl := k36_open s5
 exact rfl
theorem k50_mk (w : World) (x : S50)  : k50.K w x [.int .i64 x.f0, .int .i64 x.f1, .int .i64 x.f2, .int .i64 x.f3.f0, .int .i64 x.f3.f1, .int .i64 x.f4.f0, .int .i64 x.f4.f1, .int .i64 x.f5, .int .i64 x.f6, .int .i64 x.f7, .bool x.f8, .int .i64 x.f9] := ⟨[.int .i64 x.f0], [.int .i64 x.f1, .int .i64 x.f2, .int .i64 x.f3.f0, .int .i64 x.f3.f1, .int .i64 x.f4.f0, .int .i64 x.f4.f1, .int .i64 x.f5, .int .i64 x.f6, .int .i64 x.f7, .bool x.f8, .int .i64 x.f9], rfl, rfl, ⟨[.int .i64 x.f1], [.int .i64 x.f2, .int .i64 x.f3.f0, .int .i64 x.f3.f1, .int .i64 x.f4.f0, .int .i64 x.f4.f1, .int .i64 x.f5, .int .i64 x.f6, .int .i64 x.f7, .bool x.f8, .int .i64 x.f9], rfl, rfl, ⟨[.int .i64 x.f2], [.int .i64 x.f3.f0, .int .i64 x.f3.f1, .int .i64 x.f4.f0, .int .i64 x.f4.f1, .int .i64 x.f5, .int .i64 x.f6, .int .i64 x.f7, .bool x.f8, .int .i64 x.f9], rfl, rfl, ⟨[.int .i64 x.f3.f0, .int .i64 x.f3.f1], [.int .i64 x.f4.f0, .int .i64 x.f4.f1, .int .i64 x.f5, .int .i64 x.f6, .int .i64 x.f7, .bool x.f8, .int .i64 x.f9], rfl, (k36_mk w x.f3 ), ⟨[.int .i64 x.f4.f0, .int .i64 x.f4.f1], [.int .i64 x.f5, .int .i64 x.f6, .int .i64 x.f7, .bool x.f8, .int .i64 x.f9], rfl, (k36_mk w x.f4 ), ⟨[.int .i64 x.f5], [.int .i64 x.f6, .int .i64 x.f7, .bool x.f8, .int .i64 x.f9], rfl, rfl, ⟨[.int .i64 x.f6], [.int .i64 x.f7, .bool x.f8, .int .i64 x.f9], rfl, rfl, ⟨[.int .i64 x.f7], [.bool x.f8, .int .i64 x.f9], rfl, rfl, ⟨[.bool x.f8], [.int .i64 x.f9], rfl, rfl, rfl⟩⟩⟩⟩⟩⟩⟩⟩⟩
def rd_T50 (xs : List S50) (i : Int) : S50 := xs.getD i.toNat z50
theorem at_T50 {w : World} {A : Option Addr} {n : Nat} {xs : List S50} (h : Kd.C k50 w A n xs) (i : Int) (h0 : 0 ≤ i) (h1 : i < n) : ∃ ad , A = some ad ∧ w.cell? (ad.add (i.toNat * 12)) = some (.int .i64 (rd_T50 xs i).f0) ∧ w.cell? ⟨(ad.add (i.toNat * 12)).block, (ad.add (i.toNat * 12)).off + 1, none⟩ = some (.int .i64 (rd_T50 xs i).f1) ∧ w.cell? ⟨(ad.add (i.toNat * 12)).block, (ad.add (i.toNat * 12)).off + 2, none⟩ = some (.int .i64 (rd_T50 xs i).f2) ∧ w.cell? ⟨(ad.add (i.toNat * 12)).block, (ad.add (i.toNat * 12)).off + 3, none⟩ = some (.int .i64 (rd_T50 xs i).f3.f0) ∧ w.cell? ⟨(ad.add (i.toNat * 12)).block, (ad.add (i.toNat * 12)).off + 4, none⟩ = some (.int .i64 (rd_T50 xs i).f3.f1) ∧ w.cell? ⟨(ad.add (i.toNat * 12)).block, (ad.add (i.toNat * 12)).off + 5, none⟩ = some (.int .i64 (rd_T50 xs i).f4.f0) ∧ w.cell? ⟨(ad.add (i.toNat * 12)).block, (ad.add (i.toNat * 12)).off + 6, none⟩ = some (.int .i64 (rd_T50 xs i).f4.f1) ∧ w.cell? ⟨(ad.add (i.toNat * 12)).block, (ad.add (i.toNat * 12)).off + 7, none⟩ = some (.int .i64 (rd_T50 xs i).f5) ∧ w.cell? ⟨(ad.add (i.toNat * 12)).block, (ad.add (i.toNat * 12)).off + 8, none⟩ = some (.int .i64 (rd_T50 xs i).f6) ∧ w.cell? ⟨(ad.add (i.toNat * 12)).block, (ad.add (i.toNat * 12)).off + 9, none⟩ = some (.int .i64 (rd_T50 xs i).f7) ∧ w.cell? ⟨(ad.add (i.toNat * 12)).block, (ad.add (i.toNat * 12)).off + 10, none⟩ = some (.bool (rd_T50 xs i).f8) ∧ w.cell? ⟨(ad.add (i.toNat * 12)).block, (ad.add (i.toNat * 12)).off + 11, none⟩ = some (.int .i64 (rd_T50 xs i).f9) := by
 obtain ⟨ad, c, e, _, hK, hc0⟩ := Kd.C_get h z50 i h0 h1
 have hc : ∀ j u, c[j]? = some u → w.cell? (ad.add (i.toNat * 12 + j)) = some u := hc0
 obtain rfl := k50_open hK
 exact ⟨ad, e, hc 0 _ rfl, by rw [← add_field _ _ 1 (by omega)]; exact hc 1 _ rfl, by rw [← add_field _ _ 2 (by omega)]; exact hc 2 _ rfl, by rw [← add_field _ _ 3 (by omega)]; exact hc 3 _ rfl, by rw [← add_field _ _ 4 (by omega)]; exact hc 4 _ rfl, by rw [← add_field _ _ 5 (by omega)]; exact hc 5 _ rfl, by rw [← add_field _ _ 6 (by omega)]; exact hc 6 _ rfl, by rw [← add_field _ _ 7 (by omega)]; exact hc 7 _ rfl, by rw [← add_field _ _ 8 (by omega)]; exact hc 8 _ rfl, by rw [← add_field _ _ 9 (by omega)]; exact hc 9 _ rfl, by rw [← add_field _ _ 10 (by omega)]; exact hc 10 _ rfl, by rw [← add_field _ _ 11 (by omega)]; exact hc 11 _ rfl⟩
end Go.Proofs.Ythniclbmpeklmaa.KJf
end
section
namespace Go.Proofs.Ythniclbmpeklmaa.KJf
open Go.RowKit Go.Proofs.YthniclbmpeklmaaW.PrintWords Go.Proofs.YthniclbmpeklmaaW.PrintLast Go.Proofs.YthniclbmpeklmaaW.PrintMore
attribute [local go_sem] max2_int min2_int max_two min_two max_three min_three max_four min_four   -- for this text's walks alone
set_option linter.unusedVariables false
set_option linter.unusedSimpArgs false
theorem eqA36 (d : Nat) (w : World) (x0 y0 : Int) (x1 y1 : Int) :
  (Op.equalIn (d + 2) 36 (.agg #[.int .i64 x0, .int .i64 x1]) (.agg #[.int .i64 y0, .int .i64 y1])).run Try.prog w = .ok (x0 == y0 && (x1 == y1)) w := by
 refine eqA_of Try.underlying36 (by kernel_rfl) ?_
 refine eqf_cons (by rfl) (by go_simp; rfl) (by go_simp; rfl) (by go_simp) ?_
 exact eqf_last (by rfl) (by go_simp; rfl) (by go_simp; rfl) (by go_simp)
end Go.Proofs.Ythniclbmpeklmaa.KJf
end
section
namespace Go.Proofs.Ythniclbmpeklmaa.KJf
open Go.RowKit Go.Proofs.YthniclbmpeklmaaW.PrintWords Go.Proofs.YthniclbmpeklmaaW.PrintLast Go.Proofs.YthniclbmpeklmaaW.PrintMore
attribute [local go_sem] max2_int min2_int max_two min_two max_three min_three max_four min_four   -- for this text's walks alone
set_option linter.unusedVariables false
set_option linter.unusedSimpArgs false
attribute [local go_sem high] eqA36
def knelllaw11_Of.f (a0_0 : Int) (a0_1 : Int) (a0_2 : Int) (a0_3 : Int) (a0_4 : Int) (a0_5 : Int) (a0_6 : Int) (a0_7 : Int) (a0_8 : Int) (a0_9 : Int) (a0_10 : Bool) (a0_11 : Int) : Option (Int × Int × Int × Int × Int × Int × Int × Int × Int × Int × Bool × Int) := some (a0_0, a0_1, a0_2, a0_3, a0_4, a0_5, a0_6, a0_7, a0_8, a0_9, a0_10, a0_11)
set_option maxHeartbeats 8000000 in
set_option maxRecDepth 100000 in
theorem knelllaw11_Of.calls (a0_0 : Int) (a0_1 : Int) (a0_2 : Int) (a0_3 : Int) (a0_4 : Int) (a0_5 : Int) (a0_6 : Int) (a0_7 : Int) (a0_8 : Int) (a0_9 : Int) (a0_10 : Bool) (a0_11 : Int) (r1 : Int) (r2 : Int) (r3 : Int) (r4 : Int) (r5 : Int) (r6 : Int) (r7 : Int) (r8 : Int) (r9 : Int) (r10 : Int) (r11 : Bool) (r12 : Int) (w : World) (h : knelllaw11_Of.f a0_0 a0_1 a0_2 a0_3 a0_4 a0_5 a0_6 a0_7 a0_8 a0_9 a0_10 a0_11 = some (r1, r2, r3, r4, r5, r6, r7, r8, r9, r10, r11, r12)) :
  Calls Try.prog 30 #[.agg #[.int .i64 a0_0, .int .i64 a0_1, .int .i64 a0_2, .int .i64 a0_3, .int .i64 a0_4, .int .i64 a0_5, .int .i64 a0_6, .int .i64 a0_7, .int .i64 a0_8, .int .i64 a0_9, .bool a0_10, .int .i64 a0_11]] w fun e w' => e = .returned (.agg #[.int .i64 r1, .int .i64 r2, .int .i64 r3, .int .i64 r4, .int .i64 r5, .int .i64 r6, .int .i64 r7, .int .i64 r8, .int .i64 r9, .int .i64 r10, .bool r11, .int .i64 r12]) ∧ Below w.heap.size w w' := by
 have hu50 := Try.underlying50
 have hu54 := Try.underlying54
 have hu34 := Try.underlying34
 have HB := Aside0.mk (Below.refl w.heap.size w)
 have H : (some (a0_0, a0_1, a0_2, a0_3, a0_4, a0_5, a0_6, a0_7, a0_8, a0_9, a0_10, a0_11)) = some (r1, r2, r3, r4, r5, r6, r7, r8, r9, r10, r11, r12) := h
 clear h
 simp only [Option.some.injEq, Prod.mk.injEq] at H
 obtain ⟨rfl, rfl, rfl, rfl, rfl, rfl, rfl, rfl, rfl, rfl, rfl, rfl⟩ := H
 go_enter Try.func30, Try.ntmps30
 go_wp2_with (first | ((with_reducible refine gate_dst (N := 1) rfl ?_); refine box_event ?hg (N := 1) ?hd (cs := #[.int .i64 a0_0, .int .i64 a0_1, .int .i64 a0_2, .int .i64 a0_3, .int .i64 a0_4, .int .i64 a0_5, .int .i64 a0_6, .int .i64 a0_7, .int .i64 a0_8, .int .i64 a0_9, .bool a0_10, .int .i64 a0_11]) (t := 50) ?hr ?_; (case hd => rfl); (case hg => rfl); (case hr => first | (go_simp; done) | (go_simp; rfl)); intro gb101 hg w2 hbox hb; have n0_ := Aside0.mk (below_step (by repeat (first | (with_reducible first | exact HB.out | apply below_alloc | apply pw_below_drewN | apply below_drew1) | exact HB.out)) hb); have n1_ := Aside0.mk (hbox); have n2_ := Aside0.mk ((by rw [hg]; exact (below_size (by repeat (first | (with_reducible first | exact HB.out | apply below_alloc | apply pw_below_drewN | apply below_drew1) | exact HB.out))) : w.heap.size ≤ gb101)); have n3_ := Aside0.mk ((by rw [hg]; exact (below_size (by repeat (first | (with_reducible first | exact HB.out | apply below_alloc | apply pw_below_drewN | apply below_drew1) | exact HB.out))) : w.heap.size ≤ gb101)); clear HB; have HB := n0_; have BK101 := n1_; have GW101 := n2_; have GE101 := n3_; clear n0_ n1_ n2_ n3_; clear hb hbox hg) | ((with_reducible refine gate_dst (N := 2) rfl ?_); refine box_event ?hg (N := 2) ?hd (cs := #[.int .i64 0, .int .i64 0, .int .i64 0, .int .i64 0, .int .i64 0, .int .i64 0, .int .i64 0, .int .i64 0, .int .i64 0, .int .i64 0, .bool false, .int .i64 0]) (t := 54) ?hr ?_; (case hd => rfl); (case hg => rfl); (case hr => first | (go_simp; done) | (go_simp; rfl)); intro gb102 hg w3 hbox hb; have n0_ := Aside0.mk (blk_below (g := gb101) (o := .cells #[.int .i64 a0_0, .int .i64 a0_1, .int .i64 a0_2, .int .i64 a0_3, .int .i64 a0_4, .int .i64 a0_5, .int .i64 a0_6, .int .i64 a0_7, .int .i64 a0_8, .int .i64 a0_9, .bool a0_10, .int .i64 a0_11] 50 (0, 0)) (by (with_reducible repeat (first | refine blk_drewN ?_ _ | refine blk_drew ?_ | refine blk_alloc ?_ _)); exact BK101.out) hb); have n1_ := Aside0.mk (below_step (by repeat (first | (with_reducible first | exact HB.out | apply below_alloc | apply pw_below_drewN | apply below_drew1 | refine below_set ?_ GE101.out) | exact HB.out)) hb); have n2_ := Aside0.mk (hbox); have n3_ := Aside0.mk ((by rw [hg]; exact (below_size (by repeat (first | (with_reducible first | exact HB.out | apply below_alloc | apply pw_below_drewN | apply below_drew1 | refine below_set ?_ GE101.out) | exact HB.out))) : w.heap.size ≤ gb102)); have n4_ := Aside0.mk ((by rw [hg]; exact (below_size (by repeat (first | (with_reducible first | exact HB.out | apply below_alloc | apply pw_below_drewN | apply below_drew1 | refine below_set ?_ GE101.out) | exact HB.out))) : w.heap.size ≤ gb102)); have n5_ := Aside0.mk ((by rw [hg]; exact Nat.ne_of_lt (blk_lt (g := gb101) (o := .cells #[.int .i64 a0_0, .int .i64 a0_1, .int .i64 a0_2, .int .i64 a0_3, .int .i64 a0_4, .int .i64 a0_5, .int .i64 a0_6, .int .i64 a0_7, .int .i64 a0_8, .int .i64 a0_9, .bool a0_10, .int .i64 a0_11] 50 (0, 0)) (by (with_reducible repeat (first | refine blk_drewN ?_ _ | refine blk_drew ?_ | refine blk_alloc ?_ _)); exact BK101.out)) : gb101 ≠ gb102)); have n6_ := Aside0.mk ((by rw [hg]; exact Nat.ne_of_gt (blk_lt (g := gb101) (o := .cells #[.int .i64 a0_0, .int .i64 a0_1, .int .i64 a0_2, .int .i64 a0_3, .int .i64 a0_4, .int .i64 a0_5, .int .i64 a0_6, .int .i64 a0_7, .int .i64 a0_8, .int .i64 a0_9, .bool a0_10, .int .i64 a0_11] 50 (0, 0)) (by (with_reducible repeat (first | refine blk_drewN ?_ _ | refine blk_drew ?_ | refine blk_alloc ?_ _)); exact BK101.out)) : gb102 ≠ gb101)); clear BK101; clear HB; have BK101 := n0_; have HB := n1_; have BK102 := n2_; have GW102 := n3_; have GE102 := n4_; have NB101_102 := n5_; have NB102_101 := n6_; clear n0_ n1_ n2_ n3_ n4_ n5_ n6_; clear hb hbox hg; have hnb4 := NB101_102.out; have hnc4 := NB102_101.out; have hcz5_0 : w3.cell? ⟨gb101, 0, none⟩ = some (.int .i64 a0_0) := (blk_cell BK101.out 0).trans rfl; have hcz5_1 : w3.cell? ⟨gb101, 1, none⟩ = some (.int .i64 a0_1) := (blk_cell BK101.out 1).trans rfl; have hcz5_2 : w3.cell? ⟨gb101, 2, none⟩ = some (.int .i64 a0_2) := (blk_cell BK101.out 2).trans rfl; have hcz5_3 : w3.cell? ⟨gb101, 3, none⟩ = some (.int .i64 a0_3) := (blk_cell BK101.out 3).trans rfl; have hcz5_4 : w3.cell? ⟨gb101, 4, none⟩ = some (.int .i64 a0_4) := (blk_cell BK101.out 4).trans rfl; have hcz5_5 : w3.cell? ⟨gb101, 5, none⟩ = some (.int .i64 a0_5) := (blk_cell BK101.out 5).trans rfl; have hcz5_6 : w3.cell? ⟨gb101, 6, none⟩ = some (.int .i64 a0_6) := (blk_cell BK101.out 6).trans rfl; have hcz5_7 : w3.cell? ⟨gb101, 7, none⟩ = some (.int .i64 a0_7) := (blk_cell BK101.out 7).trans rfl; have hcz5_8 : w3.cell? ⟨gb101, 8, none⟩ = some (.int .i64 a0_8) := (blk_cell BK101.out 8).trans rfl; have hcz5_9 : w3.cell? ⟨gb101, 9, none⟩ = some (.int .i64 a0_9) := (blk_cell BK101.out 9).trans rfl; have hcz5_10 : w3.cell? ⟨gb101, 10, none⟩ = some (.bool a0_10) := (blk_cell BK101.out 10).trans rfl; have hcz5_11 : w3.cell? ⟨gb101, 11, none⟩ = some (.int .i64 a0_11) := (blk_cell BK101.out 11).trans rfl; have hfz5_0 := blk_frozen BK101.out 0; have hfz5_1 := blk_frozen BK101.out 1; have hfz5_2 := blk_frozen BK101.out 2; have hfz5_3 := blk_frozen BK101.out 3; have hfz5_4 := blk_frozen BK101.out 4; have hfz5_5 := blk_frozen BK101.out 5; have hfz5_6 := blk_frozen BK101.out 6; have hfz5_7 := blk_frozen BK101.out 7; have hfz5_8 := blk_frozen BK101.out 8; have hfz5_9 := blk_frozen BK101.out 9; have hfz5_10 := blk_frozen BK101.out 10; have hfz5_11 := blk_frozen BK101.out 11; have hcz6_0 : w3.cell? ⟨gb102, 0, none⟩ = some (.int .i64 0) := (blk_cell BK102.out 0).trans rfl; have hcz6_1 : w3.cell? ⟨gb102, 1, none⟩ = some (.int .i64 0) := (blk_cell BK102.out 1).trans rfl; have hcz6_2 : w3.cell? ⟨gb102, 2, none⟩ = some (.int .i64 0) := (blk_cell BK102.out 2).trans rfl; have hcz6_3 : w3.cell? ⟨gb102, 3, none⟩ = some (.int .i64 0) := (blk_cell BK102.out 3).trans rfl; have hcz6_4 : w3.cell? ⟨gb102, 4, none⟩ = some (.int .i64 0) := (blk_cell BK102.out 4).trans rfl; have hcz6_5 : w3.cell? ⟨gb102, 5, none⟩ = some (.int .i64 0) := (blk_cell BK102.out 5).trans rfl; have hcz6_6 : w3.cell? ⟨gb102, 6, none⟩ = some (.int .i64 0) := (blk_cell BK102.out 6).trans rfl; have hcz6_7 : w3.cell? ⟨gb102, 7, none⟩ = some (.int .i64 0) := (blk_cell BK102.out 7).trans rfl; have hcz6_8 : w3.cell? ⟨gb102, 8, none⟩ = some (.int .i64 0) := (blk_cell BK102.out 8).trans rfl; have hcz6_9 : w3.cell? ⟨gb102, 9, none⟩ = some (.int .i64 0) := (blk_cell BK102.out 9).trans rfl; have hcz6_10 : w3.cell? ⟨gb102, 10, none⟩ = some (.bool false) := (blk_cell BK102.out 10).trans rfl; have hcz6_11 : w3.cell? ⟨gb102, 11, none⟩ = some (.int .i64 0) := (blk_cell BK102.out 11).trans rfl; have hfz6_0 := blk_frozen BK102.out 0; have hfz6_1 := blk_frozen BK102.out 1; have hfz6_2 := blk_frozen BK102.out 2; have hfz6_3 := blk_frozen BK102.out 3; have hfz6_4 := blk_frozen BK102.out 4; have hfz6_5 := blk_frozen BK102.out 5; have hfz6_6 := blk_frozen BK102.out 6; have hfz6_7 := blk_frozen BK102.out 7; have hfz6_8 := blk_frozen BK102.out 8; have hfz6_9 := blk_frozen BK102.out 9; have hfz6_10 := blk_frozen BK102.out 10; have hfz6_11 := blk_frozen BK102.out 11))
 refine bodyPost_ret (results_cell_row rfl _ _ gb102 54 #[.int .i64 a0_0, .int .i64 a0_1, .int .i64 a0_2, .int .i64 a0_3, .int .i64 a0_4, .int .i64 a0_5, .int .i64 a0_6, .int .i64 a0_7, .int .i64 a0_8, .int .i64 a0_9, .bool a0_10, .int .i64 a0_11] (0, 0) _ rfl (by (with_reducible repeat (first | refine blk_drewN ?_ _ | refine blk_drew ?_ | refine blk_alloc ?_ _)); refine blk_put (cs := #[.int .i64 a0_0, .int .i64 a0_1, .int .i64 a0_2, .int .i64 a0_3, .int .i64 a0_4, .int .i64 a0_5, .int .i64 a0_6, .int .i64 a0_7, .int .i64 a0_8, .int .i64 a0_9, .bool a0_10, .int .i64 0]) ?_ 11 _ rfl; (with_reducible repeat (first | refine blk_drewN ?_ _ | refine blk_drew ?_ | refine blk_alloc ?_ _)); refine blk_put (cs := #[.int .i64 a0_0, .int .i64 a0_1, .int .i64 a0_2, .int .i64 a0_3, .int .i64 a0_4, .int .i64 a0_5, .int .i64 a0_6, .int .i64 a0_7, .int .i64 a0_8, .int .i64 a0_9, .bool false, .int .i64 0]) ?_ 10 _ rfl; (with_reducible repeat (first | refine blk_drewN ?_ _ | refine blk_drew ?_ | refine blk_alloc ?_ _)); refine blk_put (cs := #[.int .i64 a0_0, .int .i64 a0_1, .int .i64 a0_2, .int .i64 a0_3, .int .i64 a0_4, .int .i64 a0_5, .int .i64 a0_6, .int .i64 a0_7, .int .i64 a0_8, .int .i64 0, .bool false, .int .i64 0]) ?_ 9 _ rfl; (with_reducible repeat (first | refine blk_drewN ?_ _ | refine blk_drew ?_ | refine blk_alloc ?_ _)); refine blk_put (cs := #[.int .i64 a0_0, .int .i64 a0_1, .int .i64 a0_2, .int .i64 a0_3, .int .i64 a0_4, .int .i64 a0_5, .int .i64 a0_6, .int .i64 a0_7, .int .i64 0, .int .i64 0, .bool false, .int .i64 0]) ?_ 8 _ rfl; (with_reducible repeat (first | refine blk_drewN ?_ _ | refine blk_drew ?_ | refine blk_alloc ?_ _)); refine blk_put (cs := #[.int .i64 a0_0, .int .i64 a0_1, .int .i64 a0_2, .int .i64 a0_3, .int .i64 a0_4, .int .i64 a0_5, .int .i64 a0_6, .int .i64 0, .int .i64 0, .int .i64 0, .bool false, .int .i64 0]) ?_ 7 _ rfl; (with_reducible repeat (first | refine blk_drewN ?_ _ | refine blk_drew ?_ | refine blk_alloc ?_ _)); refine blk_put (cs := #[.int .i64 a0_0, .int .i64 a0_1, .int .i64 a0_2, .int .i64 a0_3, .int .i64 a0_4, .int .i64 a0_5, .int .i64 0, .int .i64 0, .int .i64 0, .int .i64 0, .bool false, .int .i64 0]) ?_ 6 _ rfl; (with_reducible repeat (first | refine blk_drewN ?_ _ | refine blk_drew ?_ | refine blk_alloc ?_ _)); refine blk_put (cs := #[.int .i64 a0_0, .int .i64 a0_1, .int .i64 a0_2, .int .i64 a0_3, .int .i64 a0_4, .int .i64 0, .int .i64 0, .int .i64 0, .int .i64 0, .int .i64 0, .bool false, .int .i64 0]) ?_ 5 _ rfl; (with_reducible repeat (first | refine blk_drewN ?_ _ | refine blk_drew ?_ | refine blk_alloc ?_ _)); refine blk_put (cs := #[.int .i64 a0_0, .int .i64 a0_1, .int .i64 a0_2, .int .i64 a0_3, .int .i64 0, .int .i64 0, .int .i64 0, .int .i64 0, .int .i64 0, .int .i64 0, .bool false, .int .i64 0]) ?_ 4 _ rfl; (with_reducible repeat (first | refine blk_drewN ?_ _ | refine blk_drew ?_ | refine blk_alloc ?_ _)); refine blk_put (cs := #[.int .i64 a0_0, .int .i64 a0_1, .int .i64 a0_2, .int .i64 0, .int .i64 0, .int .i64 0, .int .i64 0, .int .i64 0, .int .i64 0, .int .i64 0, .bool false, .int .i64 0]) ?_ 3 _ rfl; (with_reducible repeat (first | refine blk_drewN ?_ _ | refine blk_drew ?_ | refine blk_alloc ?_ _)); refine blk_put (cs := #[.int .i64 a0_0, .int .i64 a0_1, .int .i64 0, .int .i64 0, .int .i64 0, .int .i64 0, .int .i64 0, .int .i64 0, .int .i64 0, .int .i64 0, .bool false, .int .i64 0]) ?_ 2 _ rfl; (with_reducible repeat (first | refine blk_drewN ?_ _ | refine blk_drew ?_ | refine blk_alloc ?_ _)); refine blk_put (cs := #[.int .i64 a0_0, .int .i64 0, .int .i64 0, .int .i64 0, .int .i64 0, .int .i64 0, .int .i64 0, .int .i64 0, .int .i64 0, .int .i64 0, .bool false, .int .i64 0]) ?_ 1 _ rfl; (with_reducible repeat (first | refine blk_drewN ?_ _ | refine blk_drew ?_ | refine blk_alloc ?_ _)); refine blk_put (cs := #[.int .i64 0, .int .i64 0, .int .i64 0, .int .i64 0, .int .i64 0, .int .i64 0, .int .i64 0, .int .i64 0, .int .i64 0, .int .i64 0, .bool false, .int .i64 0]) ?_ 0 _ rfl; (with_reducible repeat (first | refine blk_drewN ?_ _ | refine blk_drew ?_ | refine blk_alloc ?_ _)); exact BK102.out) Try.underlying54 rfl (by kernel_rfl)) rfl ?_
 exact ⟨by first | rfl | (simp [errW_none, errW_some] <;> rfl) | (simp [*, errW_none, errW_some] <;> rfl), by repeat (first | (with_reducible first | exact HB.out | apply below_alloc | apply pw_below_drewN | apply below_drew1 | refine below_set ?_ GE101.out | refine below_set ?_ GE102.out) | exact HB.out)⟩
end Go.Proofs.Ythniclbmpeklmaa.KJf
end
section
namespace Go.Proofs.Ythniclbmpeklmaa.Mo
open Go.RowKit Go.Maps Go.Proofs.YthniclbmpeklmaaW.PrintWords Go.Proofs.YthniclbmpeklmaaW.PrintLast Go.Proofs.YthniclbmpeklmaaW.PrintMore Go.Proofs.Ythniclbmpeklmaa.Mp Go.Proofs.Ythniclbmpeklmaa.Ju
open Go.Proofs.Ythniclbmpeklmaa.Au (Ha RowIs flat_get flat_len haV lawH types_ne evA Ev Fr)
set_option linter.unusedVariables false
set_option linter.unusedSimpArgs false
theorem of_ev (e : Ev) (W : World) : Calls Try.prog 30 #[.agg (evA e)] W fun r w' => r = .returned (.agg (evA e)) ∧ Below W.heap.size W w' :=
 KJf.knelllaw11_Of.calls _ _ _ _ _ _ _ _ _ _ _ _ _ _ _ _ _ _ _ _ _ _ _ _ W rfl
theorem row_lower {w : World} {B B' T k : Nat} {α : Type} {A : α → Array Value} {v : Value} {L : List α} (h : RowIs w B T k A v L) (hB : B' ≤ B) : RowIs w B' T k A v L := by
 refine ⟨h.1, ?_⟩
 rcases h.2 with q | ⟨g, cap, cur, hv, hb, q⟩
 ·exact .inl q
 ·exact .inr ⟨g, cap, cur, hv, Nat.le_trans hB hb, q⟩
end Go.Proofs.Ythniclbmpeklmaa.Mo
end
section
namespace Go.Proofs.Ythniclbmpeklmaa.KJf
open Go.RowKit Go.Proofs.YthniclbmpeklmaaW.PrintWords Go.Proofs.YthniclbmpeklmaaW.PrintLast Go.Proofs.YthniclbmpeklmaaW.PrintMore
attribute [local go_sem] max2_int min2_int max_two min_two max_three min_three max_four min_four   -- for this text's walks alone
set_option linter.unusedVariables false
set_option linter.unusedSimpArgs false
def knelllaw12_Of.f (a0_0 : Int) (a0_1 : Int) : Option (Int × Int) := some (a0_0, a0_1)
set_option maxHeartbeats 8000000 in
set_option maxRecDepth 100000 in
theorem knelllaw12_Of.calls (a0_0 : Int) (a0_1 : Int) (r1 : Int) (r2 : Int) (w : World) (h : knelllaw12_Of.f a0_0 a0_1 = some (r1, r2)) :
  Calls Try.prog 34 #[.agg #[.int .i64 a0_0, .int .i64 a0_1]] w fun e w' => e = .returned (.agg #[.int .i64 r1, .int .i64 r2]) ∧ Below w.heap.size w w' := by
 have hu36 := Try.underlying36
 have hu34 := Try.underlying34
 have HB := Aside0.mk (Below.refl w.heap.size w)
 have H : (some (a0_0, a0_1)) = some (r1, r2) := h
 clear h
 simp only [Option.some.injEq, Prod.mk.injEq] at H
 obtain ⟨rfl, rfl⟩ := H
 go_enter Try.func34, Try.ntmps34
 go_wp2_with (first | ((with_reducible refine gate_dst (N := 1) rfl ?_); refine box_event ?hg (N := 1) ?hd (cs := #[.int .i64 a0_0, .int .i64 a0_1]) (t := 36) ?hr ?_; (case hd => rfl); (case hg => rfl); (case hr => first | (go_simp; done) | (go_simp; rfl)); intro gb217 hg w2 hbox hb; have n0_ := Aside0.mk (below_step (by repeat (first | (with_reducible first | exact HB.out | apply below_alloc | apply pw_below_drewN | apply below_drew1) | exact HB.out)) hb); have n1_ := Aside0.mk (hbox); have n2_ := Aside0.mk ((by rw [hg]; exact (below_size (by repeat (first | (with_reducible first | exact HB.out | apply below_alloc | apply pw_below_drewN | apply below_drew1) | exact HB.out))) : w.heap.size ≤ gb217)); have n3_ := Aside0.mk ((by rw [hg]; exact (below_size (by repeat (first | (with_reducible first | exact HB.out | apply below_alloc | apply pw_below_drewN | apply below_drew1) | exact HB.out))) : w.heap.size ≤ gb217)); clear HB; have HB := n0_; have BK217 := n1_; have GW217 := n2_; have GE217 := n3_; clear n0_ n1_ n2_ n3_; clear hb hbox hg) | ((with_reducible refine gate_dst (N := 2) rfl ?_); refine box_event ?hg (N := 2) ?hd (cs := #[.int .i64 0, .int .i64 0]) (t := 34) ?hr ?_; (case hd => rfl); (case hg => rfl); (case hr => first | (go_simp; done) | (go_simp; rfl)); intro gb218 hg w3 hbox hb; have n0_ := Aside0.mk (blk_below (g := gb217) (o := .cells #[.int .i64 a0_0, .int .i64 a0_1] 36 (0, 0)) (by (with_reducible repeat (first | refine blk_drewN ?_ _ | refine blk_drew ?_ | refine blk_alloc ?_ _)); exact BK217.out) hb); have n1_ := Aside0.mk (below_step (by repeat (first | (with_reducible first | exact HB.out | apply below_alloc | apply pw_below_drewN | apply below_drew1 | refine below_set ?_ GE217.out) | exact HB.out)) hb); have n2_ := Aside0.mk (hbox); have n3_ := Aside0.mk ((by rw [hg]; exact (below_size (by repeat (first | (with_reducible first | exact HB.out | apply below_alloc | apply pw_below_drewN | apply below_drew1 | refine below_set ?_ GE217.out) | exact HB.out))) : w.heap.size ≤ gb218)); have n4_ := Aside0.mk ((by rw [hg]; exact (below_size (by repeat (first | (with_reducible first | exact HB.out | apply below_alloc | apply pw_below_drewN | apply below_drew1 | refine below_set ?_ GE217.out) | exact HB.out))) : w.heap.size ≤ gb218)); have n5_ := Aside0.mk ((by rw [hg]; exact Nat.ne_of_lt (blk_lt (g := gb217) (o := .cells #[.int .i64 a0_0, .int .i64 a0_1] 36 (0, 0)) (by (with_reducible repeat (first | refine blk_drewN ?_ _ | refine blk_drew ?_ | refine blk_alloc ?_ _)); exact BK217.out)) : gb217 ≠ gb218)); have n6_ := Aside0.mk ((by rw [hg]; exact Nat.ne_of_gt (blk_lt (g := gb217) (o := .cells #[.int .i64 a0_0, .int .i64 a0_1] 36 (0, 0)) (by (with_reducible repeat (first | refine blk_drewN ?_ _ | refine blk_drew ?_ | refine blk_alloc ?_ _)); exact BK217.out)) : gb218 ≠ gb217)); clear BK217; clear HB; have BK217 := n0_; have HB := n1_; have BK218 := n2_; have GW218 := n3_; have GE218 := n4_; have NB217_218 := n5_; have NB218_217 := n6_; clear n0_ n1_ n2_ n3_ n4_ n5_ n6_; clear hb hbox hg; have hnb4 := NB217_218.out; have hnc4 := NB218_217.out; have hcz5_0 : w3.cell? ⟨gb217, 0, none⟩ = some (.int .i64 a0_0) := (blk_cell BK217.out 0).trans rfl; have hcz5_1 : w3.cell? ⟨gb217, 1, none⟩ = some (.int .i64 a0_1) := (blk_cell BK217.out 1).trans rfl; have hfz5_0 := blk_frozen BK217.out 0; have hfz5_1 := blk_frozen BK217.out 1; have hcz6_0 : w3.cell? ⟨gb218, 0, none⟩ = some (.int .i64 0) := (blk_cell BK218.out 0).trans rfl; have hcz6_1 : w3.cell? ⟨gb218, 1, none⟩ = some (.int .i64 0) := (blk_cell BK218.out 1).trans rfl; have hfz6_0 := blk_frozen BK218.out 0; have hfz6_1 := blk_frozen BK218.out 1))
 refine bodyPost_ret (results_cell_row rfl _ _ gb218 34 #[.int .i64 a0_0, .int .i64 a0_1] (0, 0) _ rfl (by (with_reducible repeat (first | refine blk_drewN ?_ _ | refine blk_drew ?_ | refine blk_alloc ?_ _)); refine blk_put (cs := #[.int .i64 a0_0, .int .i64 0]) ?_ 1 _ rfl; (with_reducible repeat (first | refine blk_drewN ?_ _ | refine blk_drew ?_ | refine blk_alloc ?_ _)); refine blk_put (cs := #[.int .i64 0, .int .i64 0]) ?_ 0 _ rfl; (with_reducible repeat (first | refine blk_drewN ?_ _ | refine blk_drew ?_ | refine blk_alloc ?_ _)); exact BK218.out) Try.underlying34 rfl (by kernel_rfl)) rfl ?_
 exact ⟨by first | rfl | (simp [errW_none, errW_some] <;> rfl) | (simp [*, errW_none, errW_some] <;> rfl), by repeat (first | (with_reducible first | exact HB.out | apply below_alloc | apply pw_below_drewN | apply below_drew1 | refine below_set ?_ GE217.out | refine below_set ?_ GE218.out) | exact HB.out)⟩
end Go.Proofs.Ythniclbmpeklmaa.KJf
end
section
namespace Go.Proofs.Ythniclbmpeklmaa.Mo
open Go.RowKit Go.Maps Go.Proofs.YthniclbmpeklmaaW.PrintWords Go.Proofs.YthniclbmpeklmaaW.PrintLast Go.Proofs.YthniclbmpeklmaaW.PrintMore Go.Proofs.Ythniclbmpeklmaa.Mp Go.Proofs.Ythniclbmpeklmaa.Ju
open Go.Proofs.Ythniclbmpeklmaa.Au (Ha RowIs flat_get flat_len haV lawH types_ne evA Ev Fr)
set_option linter.unusedVariables false
set_option linter.unusedSimpArgs false
theorem of_ha (x y : Int) (W : World) : Calls Try.prog 34 #[.agg #[.int .i64 x, .int .i64 y]] W fun r w' => r = .returned (.agg #[.int .i64 x, .int .i64 y]) ∧ Below W.heap.size W w' :=
 KJf.knelllaw12_Of.calls _ _ _ _ W rfl
theorem eqTm (d : Nat) (w : World) (x0 y0 : Int) (x1 y1 : Int) (x2 y2 : Int) :
  (Op.equalIn (d + 3) 81 (.agg #[.int .i64 x0, .int .i64 x1, .int .i64 x2]) (.agg #[.int .i64 y0, .int .i64 y1, .int .i64 y2])).run Try.prog w = .ok ((x0 == y0 && (x1 == y1)) && (x2 == y2)) w := by
 refine eqA_of Try.underlying81 (by kernel_rfl) ?_
 refine eqf_cons (by rfl) (by go_simp) (by go_simp) (Ev.eqHa (d + 0) w _ _ _ _) ?_
 exact eqf_last (by rfl) (by go_simp; rfl) (by go_simp; rfl) (by go_simp)
attribute [local go_sem high] eqTm
end Go.Proofs.Ythniclbmpeklmaa.Mo
end
section
namespace Go.Proofs.Ythniclbmpeklmaa.Mo
open Go.RowKit Go.Maps Go.Proofs.YthniclbmpeklmaaW.PrintWords Go.Proofs.YthniclbmpeklmaaW.PrintLast Go.Proofs.YthniclbmpeklmaaW.PrintMore Go.Proofs.Ythniclbmpeklmaa.Mp Go.Proofs.Ythniclbmpeklmaa.Ju
open Go.Proofs.Ythniclbmpeklmaa.Au (Ha RowIs flat_get flat_len haV lawH types_ne evA Ev Fr)
set_option linter.unusedVariables false
set_option linter.unusedSimpArgs false
attribute [local go_sem high] Ev.eqHa
abbrev haA (h : Ha) : Array Value := #[.int .i64 h.1, .int .i64 h.2]
abbrev inA (x : Int) : Array Value := #[.int .i64 x]
theorem ha_info : (Try.prog.info? 34).map (fun i => (i.zero, i.size, i.bytes)) = some (some (.agg #[.int .i64 0, .int .i64 0]), 2, 16) := by kernel_rfl
theorem in_info : (Try.prog.info? 3).map (fun i => (i.zero, i.size, i.bytes)) = some (some (.int .i64 0), 1, 8) := by kernel_rfl
theorem fr_row' {W W1 : World} {B b n m1 m2 T k : Nat} {m : Md} {α : Type} {A : α → Array Value} {v : Value} {L : List α} (hf : Fr W W1 (mdS b m1 m2)) (h : MdIs W B b n m m1 m2) (hr : RowIs W B T k A v L) (ht : T ≠ 125) : RowIs W1 B T k A v L := by
 refine ⟨hr.1, ?_⟩
 rcases hr.2 with q | ⟨g, cap, cur, hv, hb, hg, q⟩
 ·exact .inl q
 ·exact .inr ⟨g, cap, cur, hv, hb, fr_cells hf h hg ht, q⟩
theorem st_stays {m : Md} (ho : MOk m) {e : Ev} (hw : wfJ e) {h : Ha} (hf : m.fat h ≠ none) (hs : m.st h ≠ 1) : (doF m e).1.fat h = m.fat h := by
 by_cases hz : (doF m e).2 = 0
 ·obtain ⟨hr, hd⟩ := did hz
  generalize (doF m e).1 = m' at hd
  cases hd with
  | tick hk ht => rfl
  | fire hk ha hd hc => rw [end_fat, if_neg (fun q : h = e.h => hs (by rw [q]; exact ha))]
  | cancel hk ho' hy ha => rw [end_fat, if_neg (fun q : h = e.h => hs (by rw [q]; exact ha))]
  | same hk hm he => rfl
  | start hk ho' he hst => rw [arm_fat, if_neg (fun q : h = e.new => hf (by rw [q]; exact (ho.inv.start hst).2.2))]
  | rearm hk ho' he ha h1 h2 =>
   have h0 := right_op hr hk
   have q := ho.inv.rearm (x := e.h) (y := e.new) ha h1 (wrap_next hw.1.2.1 h0.2.2.1 h2) (d := e.t)
   rw [arm_fat, end_fat]
   by_cases e1 : h = e.new
   ·exact absurd (e1 ▸ q.1) hf
   ·rw [if_neg e1, if_neg (fun q : h = e.h => hs (by rw [q]; exact ha))]
 ·rw [do_fail hz]
theorem clk_up {m : Md} {e : Ev} (h0 : 0 ≤ m.clk) (h1 : m.clk ≤ 1000000) : m.clk ≤ (doF m e).1.clk ∧ (doF m e).1.clk ≤ m.clk + 1 := by
 by_cases hz : (doF m e).2 = 0
 ·obtain ⟨hr, hd⟩ := did hz
  generalize (doF m e).1 = m' at hd
  cases hd with
  | tick hk ht => show m.clk ≤ e.t ∧ e.t ≤ m.clk + 1; rw [ht]; unfold wrap64; omega
  | fire hk ha hd hc => exact ⟨Int.le_refl _, by show m.clk ≤ m.clk + 1; omega⟩
  | cancel hk ho' hy ha => exact ⟨Int.le_refl _, by show m.clk ≤ m.clk + 1; omega⟩
  | same hk hm he => exact ⟨Int.le_refl _, by omega⟩
  | start hk ho' he hst => exact ⟨Int.le_refl _, by show m.clk ≤ m.clk + 1; omega⟩
  | rearm hk ho' he ha h1 h2 => exact ⟨Int.le_refl _, by show m.clk ≤ m.clk + 1; omega⟩
 ·rw [do_fail hz]; omega
structure Ov (m : Md) (H : List Ha) (S : List Int) : Prop where
 len : S.length = H.length
 wf : ∀ h ∈ H, wfH h
 st : ∀ (i : Nat) h, H[i]? = some h → m.fat h ≠ none ∧ m.st h = 2 ∧ S[i]? = some 2
theorem Ov.step {m : Md} {H : List Ha} {S : List Int} (h : Ov m H S) (ho : MOk m) {e : Ev} (hw : wfJ e) : Ov (doF m e).1 H S :=
 ⟨h.len, h.wf, fun i x hx => by
  obtain ⟨h1, h2, h3⟩ := h.st i x hx
  have q := st_stays ho hw h1 (by rw [h2]; decide)
  exact ⟨by rw [q]; exact h1, by unfold Md.st at *; rw [q]; exact h2, h3⟩⟩
theorem Ov.add {m : Md} {H : List Ha} {S : List Int} (h : Ov m H S) {x : Ha} (hw : wfH x) (hf : m.fat x ≠ none) (hs : m.st x = 2) : Ov m (H ++ [x]) (S ++ [2]) := by
 refine ⟨by simp [h.len], fun y hy => ?_, fun i y hy => ?_⟩
 ·rcases List.mem_append.1 hy with q | q
  ·exact h.wf y q
  ·rw [List.mem_singleton.1 q]; exact hw
 ·by_cases hi : i < H.length
  ·rw [List.getElem?_append_left hi] at hy
   obtain ⟨h1, h2, h3⟩ := h.st i y hy
   exact ⟨h1, h2, by rw [List.getElem?_append_left (by rw [h.len]; exact hi)]; exact h3⟩
  ·have hlt := (List.getElem?_eq_some_iff.1 hy).1
   simp at hlt
   obtain rfl : i = H.length := by omega
   simp at hy
   subst hy
   exact ⟨hf, hs, by rw [← h.len]; simp⟩
def DueIs (L : List Tm) (h : Ha) (j : Nat) (d : Int) : Prop := ((∀ x ∈ L.take j, x.1 ≠ h) ∧ d = -1) ∨ ∃ x ∈ L.take j, x.1 = h ∧ x.2 = d
theorem due_step {L : List Tm} {h : Ha} {j : Nat} {d : Int} {x : Tm} (hd : DueIs L h j d) (hx : L[j]? = some x) : (x.1 = h → DueIs L h (j + 1) x.2) ∧ (x.1 ≠ h → DueIs L h (j + 1) d) := by
 obtain ⟨hj, rfl⟩ := List.getElem?_eq_some_iff.1 hx
 unfold DueIs
 rw [List.take_succ_eq_append_getElem hj]
 refine ⟨fun q => .inr ⟨_, List.mem_append.2 (.inr (List.mem_singleton.2 rfl)), q, rfl⟩, fun q => ?_⟩
 rcases hd with ⟨h1, h2⟩ | ⟨y, hy, h1⟩
 ·refine .inl ⟨fun z hz => ?_, h2⟩
  rcases List.mem_append.1 hz with hz | hz
  ·exact h1 z hz
  ·rw [List.mem_singleton.1 hz]; exact q
 ·exact .inr ⟨y, List.mem_append.2 (.inl hy), h1⟩
theorem fired {m : Md} (ho : MOk m) {e : Ev} (hw : wfJ e) {L : List Tm} (hA : ArmedIs m L) {d : Int} (hd : DueIs L (e.hn, e.hg) L.length d) (hz : (doF m e).2 = 0) (hk : e.k = 4) : 0 ≤ d ∧ d ≤ e.t ∧ (doF m e).1.fat (e.hn, e.hg) ≠ none ∧ (doF m e).1.st (e.hn, e.hg) = 2 := by
 obtain ⟨hr, hdid⟩ := did hz
 generalize (doF m e).1 = m' at hdid
 have no3 : e.k = 3 → False := fun q => by omega
 cases hdid with
 | tick hk' ht => omega
 | cancel hk' ho' hy ha => omega
 | same hk' hm he => omega
 | start hk' ho' he hst => omega
 | rearm hk' ho' he ha h1 h2 => omega
 | fire hk' ha hdl hc =>
  have hwh : wfH (e.hn, e.hg) := ⟨hw.1.1, hw.1.2.1⟩
  obtain ⟨p, hp⟩ : ∃ p, m.fat (e.hn, e.hg) = some p := by
   cases q : m.fat (e.hn, e.hg) with
   | none => exact absurd q (st_fat ha)
   | some p => exact ⟨p, rfl⟩
  have hp1 : p.1 = 1 := by have q : m.st (e.hn, e.hg) = 1 := ha; unfold Md.st at q; rw [hp] at q; exact q
  have hp2 : m.fat (e.hn, e.hg) = some (1, p.2) := by rw [hp, ← hp1]
  have hdl2 : p.2 ≤ e.t := by have q : m.dl (e.hn, e.hg) ≤ e.t := hdl; unfold Md.dl at q; rw [hp] at q; exact q
  have hm := (hA.mem (e.hn, e.hg) p.2 hwh).2 hp2
  have hdd : d = p.2 := by
   rw [DueIs, List.take_length] at hd
   rcases hd with ⟨h1, _⟩ | ⟨x, hx, h1, h2⟩
   ·exact absurd rfl (h1 _ hm)
   ·have q := (hA.mem x.1 x.2 (hA.wf x hx)).1 hx
    rw [h1, hp2] at q
    have := congrArg Prod.snd (Option.some.inj q)
    simp at this
    omega
  have h0 := ho.nn _ _ hp2
  refine ⟨by omega, by omega, ?_, ?_⟩
  ·rw [end_fat]; rw [if_pos (show ((e.hn, e.hg) : Ha) = e.h from rfl)]; simp
  ·rw [end_st, if_pos (show ((e.hn, e.hg) : Ha) = e.h from rfl)]
end Go.Proofs.Ythniclbmpeklmaa.Mo
end
section
namespace Go.Proofs.Ythniclbmpeklmaa.Mo
open Go.RowKit Go.Maps Go.Proofs.YthniclbmpeklmaaW.PrintWords Go.Proofs.YthniclbmpeklmaaW.PrintLast Go.Proofs.YthniclbmpeklmaaW.PrintMore Go.Proofs.Ythniclbmpeklmaa.Mp Go.Proofs.Ythniclbmpeklmaa.Ju
open Go.Proofs.Ythniclbmpeklmaa.Au (Ha RowIs flat_get flat_len haV lawH types_ne evA Ev Fr)
set_option linter.unusedVariables false
set_option linter.unusedSimpArgs false
attribute [local go_sem high] Ev.eqHa
structure Ow (w W : World) (b m1 m2 n : Nat) (m : Md) (vh vs : Value) (H : List Ha) (S : List Int) : Prop where
 mw : Mw w W b m1 m2 n m
 rh : RowIs W w.heap.size 34 2 haA vh H
 rs : RowIs W w.heap.size 3 1 inA vs S
 ov : Ov m H S
theorem Ow.step {w W W1 : World} {b m1 m2 n : Nat} {m : Md} {vh vs : Value} {H : List Ha} {S : List Int} (h : Ow w W b m1 m2 n m vh vs H S) (hb : Below W.heap.size W W1) : Ow w W1 b m1 m2 n m vh vs H S := ⟨h.mw.step hb, pw_own_below h.rh hb, pw_own_below h.rs hb, h.ov⟩
theorem Ow.doing {w W : World} {b m1 m2 n : Nat} {m : Md} {vh vs : Value} {H : List Ha} {S : List Int} (h : Ow w W b m1 m2 n m vh vs H S) (hn : n + 1 ≤ 1000000) {e : Ev} (hw : wfJ e) {yb : Nat} (hy : W.heap[yb]? = some (.cells (evA e) 50 (0, 0))) :
  Calls Try.prog 43 #[pA b, .agg (evA e)] W fun r w' => r = .returned (.int .i64 (doF m e).2) ∧ Ow w w' b m1 m2 (n + 3) (doF m e).1 vh vs H S ∧ w'.heap[yb]? = some (.cells (evA e) 50 (0, 0)) :=
 (h.mw.doing hn hw).mono fun _ _ ⟨h1, h2, h3⟩ => ⟨h1, ⟨h2, fr_row' h3 h.mw.md h.rh (by decide), fr_row' h3 h.mw.md h.rs (by decide), h.ov.step h.mw.ok hw⟩, fr_cells h3 h.mw.md hy (by decide)⟩
def moU.T16 : Bool × List (List Nat × List Nat) := (true, [([], []), ([0], [0]), ([], []), ([2], [2]), ([3], [3]), ([1, 4], [1, 4])])
def moU.B16 : List Nat := [0, 1, 0, 4, 12, 31]
theorem moU.tab16 : rtab .any (opsOf Try.f11 16) = moU.T16 := by kernel_rfl
theorem moU.bits16 : waitsOk moU.T16.2 moU.B16 = true := by kernel_rfl
def moV.T25 : Bool × List (List Nat × List Nat) := (true, [([], []), ([], []), ([0, 1], [0, 1]), ([], []), ([], []), ([3, 4], [3, 4]), ([5], [5]), ([2, 6], [2, 6])])
def moV.B25 : List Nat := [0, 0, 3, 0, 0, 24, 56, 127]
theorem moV.tab25 : rtab .any (opsOf Try.f11 25) = moV.T25 := by kernel_rfl
theorem moV.bits25 : waitsOk moV.T25.2 moV.B25 = true := by kernel_rfl
set_option maxHeartbeats 20000000 in
set_option maxRecDepth 100000 in
theorem once_long (A1 : Option Addr) (n c1 : Nat) (hn : 60 < n) (w : World) :
  Calls Try.prog 11 #[.slice A1 n c1] w fun r w' => r = .returned (.bool true) ∧ Below w.heap.size w w' := by
 have CS := Aside0.mk (fun W => speaks12 W)
 have hn' : decide ((n : Int) > 60) = true := by simp; omega
 clear hn
 go_enter Try.func11, Try.ntmps11
 go_wp2_with (first | (go_at_call 39; (with_reducible refine (CS.out _).mono ?_); rintro r w2 ⟨rfl, hb⟩; have n2 := Aside0.mk (below_step n1.out hb); clear hb n1; have n1 := n2) | (go_at_call 39; (with_reducible refine (CS.out _).mono ?_); rintro r w1 ⟨rfl, hb⟩; have n1 := Aside0.mk hb; clear hb))
 go_ret
 exact ⟨rfl, n1.out⟩
theorem own_ne' {W : World} {B T T2 k k2 : Nat} {α β : Type} {A : α → Array Value} {A2 : β → Array Value} {v v2 : Value} {L : List α} {L2 : List β} (h : RowIs W B T k A v L) (h2 : RowIs W B T2 k2 A2 v2 L2) (ht : T2 ≠ T) : v2.ownBlock = none ∨ v2.ownBlock ≠ v.ownBlock := by
 rcases h2.2 with ⟨rfl, _⟩ | ⟨g2, cap2, cur2, rfl, _, hg2, _⟩
 ·exact .inl rfl
 ·rcases h.2 with ⟨rfl, _⟩ | ⟨g, cap, cur, rfl, _, hg, _⟩
  ·exact .inr (by simp [Value.ownBlock])
  ·refine .inr (fun e => ?_)
   have e1 : g2 = g := by simpa [Value.ownBlock] using e
   subst e1
   exact types_ne hg2 hg ht rfl
theorem blk_grown' {W W1 : World} {B T k g : Nat} {α : Type} {A : α → Array Value} {v : Value} {L : List α} {cs : Array Value} {t : TypeId} (h : RowIs W B T k A v L) (hg : W.grownBy W1 v.ownBlock) (hb : W.heap[g]? = some (.cells cs t (0, 0))) (ht : t ≠ T) : W1.heap[g]? = some (.cells cs t (0, 0)) := by
 refine (hg.block g (blk_lt hb) (fun e => ?_)).trans hb
 rcases h.2 with ⟨rfl, _⟩ | ⟨g2, cap, cur, rfl, _, hg2, _⟩
 ·cases e
 ·have e1 : g = g2 := by simpa [Value.ownBlock] using e
  subst e1
  exact types_ne hb hg2 ht rfl
theorem mw_grown {w W W1 : World} {b m1 m2 n T k : Nat} {m : Md} {α : Type} {A : α → Array Value} {v : Value} {L : List α} (h : Mw w W b m1 m2 n m) (hr : RowIs W w.heap.size T k A v L) (ht : 125 ≠ T) (hg : W.grownBy W1 v.ownBlock) : Mw w W1 b m1 m2 n m := by
 refine ⟨h.md.move fun g hgl e => hg.block g hgl (fun q => ?_), h.bel.grown hg h.bel.size (row_low (w := w) hr), h.ok⟩
 rcases hr.2 with ⟨rfl, _⟩ | ⟨g2, cap, cur, rfl, _, hg2, _⟩
 ·cases q
 ·have e1 : g = g2 := by simpa [Value.ownBlock] using q
  subst e1
  rcases e with e | e | e
  ·subst e; exact types_ne h.md.blk hg2 ht rfl
  ·obtain ⟨z, _, hz⟩ := h.md.mf; obtain ⟨_, _, hq⟩ := hz.block; subst e; exact Go.Proofs.Ythniclbmpeklmaa.Au.map_ne hg2 hq rfl
  ·obtain ⟨z, _, hz⟩ := h.md.ml; obtain ⟨_, _, hq⟩ := hz.block; subst e; exact Go.Proofs.Ythniclbmpeklmaa.Au.map_ne hg2 hq rfl
theorem app_h {w W w6 : World} {b m1 m2 n yb : Nat} {m : Md} {vh vs v' : Value} {H H' : List Ha} {S : List Int} {e : Ev} {o : Obj} (h : Ow w W b m1 m2 n m vh vs H S) (hy : W.heap[yb]? = some (.cells (evA e) 50 (0, 0))) (ho : RowIs w6 w.heap.size 34 2 haA v' H') (hg : (W.alloc o).grownBy w6 vh.ownBlock) :
  Mw w w6 b m1 m2 n m ∧ RowIs w6 w.heap.size 34 2 haA v' H' ∧ RowIs w6 w.heap.size 3 1 inA vs S ∧ w6.heap[yb]? = some (.cells (evA e) 50 (0, 0)) := by
 have h2 := h.step (below_alloc (Below.refl _ _) o)
 exact ⟨mw_grown h2.mw h2.rh (by decide) hg, ho, own_other h2.rs hg (own_ne' h2.rh h2.rs (by decide)), blk_grown' h2.rh hg (blk_alloc hy o) (by decide)⟩
theorem app_s {w W w6 : World} {b m1 m2 n : Nat} {m : Md} {vh vs v' : Value} {H : List Ha} {S S' : List Int} {o : Obj} (h : Mw w W b m1 m2 n m) (hh : RowIs W w.heap.size 34 2 haA vh H) (hs : RowIs W w.heap.size 3 1 inA vs S) (ho : RowIs w6 w.heap.size 3 1 inA v' S') (hg : (W.alloc o).grownBy w6 vs.ownBlock) :
  Mw w w6 b m1 m2 n m ∧ RowIs w6 w.heap.size 34 2 haA vh H ∧ RowIs w6 w.heap.size 3 1 inA v' S' := by
 have h2 := h.step (below_alloc (Below.refl _ _) o)
 have hh2 := pw_own_below hh (below_alloc (Below.refl _ _) o)
 have hs2 := pw_own_below hs (below_alloc (Below.refl _ _) o)
 exact ⟨mw_grown h2 hs2 (by decide) hg, own_other hh2 hg (own_ne' hs2 hh2 (by decide)), ho⟩
theorem row_none {W : World} {B g T k : Nat} {α : Type} {A : α → Array Value} (hg : W.heap[g]? = some (.cells #[] T (0, 0))) (hB : B ≤ g) : RowIs W B T k A (.slice (some ⟨g, 0, none⟩) 0 0) ([] : List α) :=
 ⟨by simp, .inr ⟨g, 0, #[], rfl, hB, hg, Nat.le_refl _, by unfold maxLen; omega, by simp, by simp⟩⟩
theorem owg_step {w W W1 : World} {b m1 m2 n : Nat} {m : Md} {vh vs v : Value} {H : List Ha} {S : List Int} {L : List Tm} {yb : Nat} {cs : Array Value} {t : TypeId} (h : Ow w W b m1 m2 n m vh vs H S ∧ W.heap[yb]? = some (.cells cs t (0, 0)) ∧ RowIs W w.heap.size 81 3 tmA v L) (hb : Below W.heap.size W W1) : Ow w W1 b m1 m2 n m vh vs H S ∧ W1.heap[yb]? = some (.cells cs t (0, 0)) ∧ RowIs W1 w.heap.size 81 3 tmA v L := ⟨h.1.step hb, blk_below h.2.1 hb, pw_own_below h.2.2 hb⟩
set_option maxHeartbeats 20000000 in
set_option maxRecDepth 100000 in
theorem once_main (A1 : Option Addr) (c1 : Nat) (l : List Ev) (hn : l.length ≤ 60) (w : World) (hin : ∀ (i : Nat) e, l[i]? = some e → EvIn w A1 i e) (hwf : ∀ e ∈ l, wfJ e) :
  Calls Try.prog 11 #[.slice A1 l.length c1] w fun r w' => r = .returned (.bool true) ∧ Below w.heap.size w w' := by
 have hu2 := Try.underlying50
 have hu3 := Try.underlying81
 have hu4 := Try.underlying22
 have hu5 := Try.underlying78
 have hu6 := Try.underlying34
 have hu7 := Try.underlying36
 have hu8 := Try.underlying31
 have hu9 := Try.underlying29
 have CS := Aside0.mk (fun W => speaks12 W)
 have CN := Aside0.mk (fun W => model_new W)
 have CO := Aside0.mk (fun e W => of_ev e W)
 have COH := Aside0.mk (fun x y W => of_ha x y W)
 have HIN := Aside0.mk hin
 have HWF := Aside0.mk hwf
 have HN := Aside0.mk hn
 have hn' : decide ((l.length : Int) > 60) = false := by simp; omega
 clear hin hwf hn
 go_enter Try.func11, Try.ntmps11
 go_upto_region 6 with (first | (go_at_call 39; (with_reducible refine (CS.out _).mono ?_); rintro r w1 ⟨rfl, hb⟩; have n1 := Aside0.mk hb; clear hb) | (go_at_call 40; (with_reducible refine (CN.out _).mono ?_); rintro r w2 ⟨rfl, hmd, hb⟩; have HM0 := Aside0.mk (show Mw w w2 (w1.heap.size + 1 + 1) w1.heap.size (w1.heap.size + 1) 0 md0 from ⟨MdIs.lower hmd n1.out.size, below_step n1.out hb, MOk0⟩); clear hmd hb n1))
 obtain ⟨b, hb⟩ : ∃ b, w1.heap.size + 1 + 1 = b := ⟨_, rfl⟩
 obtain ⟨m2, hm2⟩ : ∃ b, w1.heap.size + 1 = b := ⟨_, rfl⟩
 obtain ⟨m1, hm1⟩ : ∃ b, w1.heap.size = b := ⟨_, rfl⟩
 rw [hb, hm2, hm1] at HM0
 try rw [hb]
 clear hb hm2 hm1
 go_wp2
 have HO0 := Aside0.mk (show Ow w ((w2.alloc (.cells #[] 34)).alloc (.cells #[] 3)) b m1 m2 (3 * 0) md0 (.slice (some ⟨w2.heap.size, 0, none⟩) 0 0) (.slice (some ⟨w2.heap.size + 1, 0, none⟩) 0 0) [] [] from ⟨HM0.out.step (below_alloc (below_alloc (Below.refl _ _) _) _), row_none (blk_alloc (blk_new w2 _) _) HM0.out.bel.size, row_none (by have q := blk_new (w2.alloc (.cells #[] 34)) (.cells #[] 3); rw [show (w2.alloc (.cells #[] 34)).heap.size = w2.heap.size + 1 by simp] at q; exact q) (by have := HM0.out.bel.size; omega), ⟨rfl, fun h q => (by cases q), fun i h q => (by simp at q)⟩⟩)
 go_loopw [30, 4, 5] (fun i v4 v5 wr => ∃ (k : Nat) (m : Md) (vh vs : Value) (H : List Ha) (S : List Int), k ≤ l.length ∧ i = .int .i64 k ∧ vh = v4 ∧ vs = v5 ∧ Aside0 (H.length ≤ k ∧ 0 ≤ m.clk ∧ m.clk ≤ (k : Int) ∧ Ow w wr b m1 m2 (3 * k) m vh vs H S)) (fun i _ _ _ => l.length - (intOf i).toNat)
 case atStart => exact ⟨0, md0, _, _, [], [], by omega, rfl, rfl, rfl, ⟨by simp, by decide, by decide, HO0.out⟩⟩
 case round =>
  clear HM0 HO0
  obtain ⟨k, m, vh, vs, H, S, hk, rfl, rfl, rfl, HI⟩ := hrel
  rcases Nat.lt_or_ge k l.length with hlt | hge
  ·obtain ⟨Ah, ch, hvh, _⟩ := HI.out.2.2.2.rh.form
   subst hvh
   obtain ⟨As, cs, hvs, _⟩ := HI.out.2.2.2.rs.form
   subst hvs
   have HSL := Aside0.mk HI.out.2.2.2.ov.len
   have p0 : (0 : Int) ≤ (k : Int) := by omega
   have q0 : (k : Int) < (l.length : Int) := by omega
   obtain ⟨e, he⟩ : ∃ e, l[k]? = some e := ⟨_, List.getElem?_eq_getElem hlt⟩
   have HW := Aside0.mk (HWF.out e (Go.Proofs.Ythniclbmpeklmaa.Au.get_mem he))
   obtain ⟨ad, rfl, d0, d1, d2, d3, d4, d5, d6, d7, d8, d9, d10, d11⟩ := (HIN.out k e he).below HI.out.2.2.2.mw.bel
   have hnn : wrap64 ((k : Int) + 1) = ((k + 1 : Nat) : Int) := by have := HN.out; unfold wrap64; omega
   have HKL := Aside0.mk hlt
   have HK60 := Aside0.mk (show 3 * k + 3 ≤ 1000 by have := HN.out; omega)
   clear he hlt
   replace q0 := eq_true q0
   replace p0 := eq_true p0
   have HY := Aside0.mk (And.intro (HI.out.2.2.2.step (below_alloc (Below.refl _ _) (.cells (evA e) 50))) (blk_new wr (.cells (evA e) 50)))
   have hcy := fun i => blk_cell HY.out.2 i
   have hly := blk_lt HY.out.2
   go_wp2_with (first | (go_at_call 41; refine (model_clock HY.out.1.mw.md).mono ?_; rintro r w3 ⟨rfl, rfl⟩) | (go_at_call 42; go_loud ((with_reducible refine (armed_any HY.out.1.mw.md (by have := HN.out; omega)).mono ?_); rintro r w5 ⟨v, L, rfl, hR, hA, hL, hb⟩; obtain ⟨A2, c2, rfl, hc2⟩ := hR.form; have HA := Aside0.mk hA; have HL := Aside0.mk hL; have HQ := Aside0.mk (And.intro (HY.out.1.step hb) (And.intro (blk_below HY.out.2 hb) (row_lower hR HY.out.1.mw.bel.size))); clear hR hA hL hb hc2 hcy hly)))
   clear d0 d1 d2 d3 d4 d5 d6 d7 d8 d9 d10 d11 HY
   obtain ⟨yb, hyb⟩ : ∃ y, wr.heap.size = y := ⟨_, rfl⟩
   rw [hyb] at HQ
   simp only [hyb] at ⊢
   clear hyb
   go_loopw [39, 9] (fun vj vd wq => ∃ (j : Nat) (d : Int), j ≤ L.length ∧ vj = .int .i64 j ∧ vd = .int .i64 d ∧ Aside0 (DueIs L (e.hn, e.hg) j d ∧ Ow w wq b m1 m2 (3 * k) m (.slice Ah H.length ch) (.slice As S.length cs) H S ∧ wq.heap[yb]? = some (.cells (evA e) 50 (0, 0)) ∧ RowIs wq w.heap.size 81 3 tmA (.slice A2 L.length c2) L)) (fun vj _ _ => L.length - (intOf vj).toNat)
   case atStart => exact ⟨0, -1, by omega, rfl, rfl, ⟨.inl ⟨fun x hx => (by simp at hx), rfl⟩, HQ.out⟩⟩
   case round =>
    clear HQ
    obtain ⟨j, d, hj, rfl, rfl, HJ⟩ := hrel
    rcases Nat.lt_or_ge j L.length with hjl | hjg
    ·have pj : (0 : Int) ≤ (j : Int) := by omega
     have qj : ((j : Int) < (L.length : Int)) = True := eq_true (by omega)
     have hjj : wrap64 ((j : Int) + 1) = ((j + 1 : Nat) : Int) := by have := HL.out; have := HK60.out; unfold wrap64; omega
     obtain ⟨x, hx⟩ : ∃ x, L[j]? = some x := ⟨_, List.getElem?_eq_getElem hjl⟩
     obtain ⟨gr, cp, hv, hcp, hgl, hcell⟩ := HJ.out.2.2.2.at_ (fun _ => rfl) hx
     injection hv with hv1 hv2 hv3
     subst hv1
     have d0 := hcell 0 (by decide)
     have d1 := hcell 1 (by decide)
     have d2 := hcell 2 (by decide)
     rw [Nat.add_zero] at d0
     have d0 : wr.cell? ⟨gr, j * 3, none⟩ = some (.int .i64 x.1.1) := d0
     have d1 : wr.cell? ⟨gr, j * 3 + 1, none⟩ = some (.int .i64 x.1.2) := d1
     have d2 : wr.cell? ⟨gr, j * 3 + 2, none⟩ = some (.int .i64 x.2) := d2
     have HJL := Aside0.mk hjl
     have HDS := Aside0.mk (due_step HJ.out.1 hx)
     clear hcell hcp hv2 hv3 hx hjl hj
     replace pj := eq_true pj
     go_upto_region 16 with (fail)
     have HT0 := Aside0.mk (And.intro (owg_step HJ.out.2 (below_alloc (Below.refl _ _) (.cells (tmA x) 81))) (blk_new wr (.cells (tmA x) 81)))
     obtain ⟨W3, hW3⟩ : ∃ W, wr.alloc (.cells (tmA x) 81) = W := ⟨_, rfl⟩
     obtain ⟨tb, htb⟩ : ∃ t, wr.heap.size = t := ⟨_, rfl⟩
     have HT : Aside0 ((Ow w W3 b m1 m2 (3 * k) m (.slice Ah H.length ch) (.slice As S.length cs) H S ∧ W3.heap[yb]? = some (.cells (evA e) 50 (0, 0)) ∧ RowIs W3 w.heap.size 81 3 tmA (.slice (some ⟨gr, 0, none⟩) L.length c2) L) ∧ W3.heap[tb]? = some (.cells #[.int .i64 x.1.1, .int .i64 x.1.2, .int .i64 x.2] 81 (0, 0))) := ⟨htb ▸ hW3 ▸ HT0.out⟩
     simp only [hW3, htb] at ⊢
     clear HT0 hW3 htb d0 d1 d2
     by_cases hh : x.1 = (e.hn, e.hg)
     ·have f1 : (x.1.1 == e.hn && (x.1.2 == e.hg)) = true := by rw [hh]; simp
      have HD := Aside0.mk (HDS.out.1 hh)
      clear hh
      refine start_ (n := 6) (S := (fun w' => (∀ i, w'.cell? ⟨tb, i, none⟩ = (#[.int .i64 x.1.1, .int .i64 x.1.2, .int .i64 x.2] : Array Value)[i]?) ∧ (∀ i, w'.cell? ⟨yb, i, none⟩ = (evA e)[i]?))) (ds := []) #[ff,ff,ff,ff,ff,ff] (by kernel_rfl) rfl rfl ⟨fun i => blk_cell (blk_below HT.out.2 (below_drew (Below.refl _ _))) i, fun i => blk_cell (blk_below HT.out.1.2.1 (below_drew (Below.refl _ _))) i⟩ (fun hHeld => ?_)
      refine with_tabW moU.tab16 moU.bits16 (fun HT_ HW_ => ?_)
      have H3 := Aside0.mk (And.intro (owg_step HT.out.1 (below_drew (Below.refl _ _))) (blk_below HT.out.2 (below_drew (Below.refl _ _))))
      generalize W3.drew = w7 at H3 hHeld ⊢
      refine pure_ (i := 0) (N := (some 43)) (v := ?_) (a' := ?_) #[tt,ff,ff,ff,ff,ff] rfl rfl (any_of HT_.out (by kernel_rfl)) (fun _ _ _ h => h) (Or.inl ⟨by rfl, ?_⟩) ?_ ?_
      rotate_left
      ·intro w'
       go_simp
       with_reducible rfl
      rotate_left
      ·simp only [Act.put, sQ0, sQ1, sQ2, i64_w]
       rfl
      refine pure_ (i := 2) (N := (some 45)) (v := ?_) (a' := ?_) #[tt,ff,tt,ff,ff,ff] rfl rfl (any_of HT_.out (by kernel_rfl)) (fun _ _ _ h => h) (Or.inl ⟨by rfl, ?_⟩) ?_ ?_
      rotate_left
      ·intro w'
       go_simp
       with_reducible rfl
      rotate_left
      ·simp only [Act.put, sQ0, sQ1, sQ2, i64_w]
       rfl
      refine take_ (i := 1) (N := (some 44)) (v := ?_) (a' := ?_) #[tt,tt,tt,ff,ff,ff] rfl rfl (take_ofW HT_.out HW_.out (by kernel_rfl)) (fun _ _ _ h => h) (Or.inl ⟨by rfl, ?_⟩) hHeld ?_ ?_
      rotate_left
      ·rintro w' ⟨s0, s1⟩
       go_simp
       with_reducible rfl
      rotate_left
      ·simp only [Act.put, sQ0, sQ1, sQ2, i64_w]
       rfl
      refine take_ (i := 3) (N := (some 46)) (v := ?_) (a' := ?_) #[tt,tt,tt,tt,ff,ff] rfl rfl (take_ofW HT_.out HW_.out (by kernel_rfl)) (fun _ _ _ h => h) (Or.inl ⟨by rfl, ?_⟩) hHeld ?_ ?_
      rotate_left
      ·rintro w' ⟨s0, s1⟩
       go_simp
       with_reducible rfl
      rotate_left
      ·simp only [Act.put, sQ0, sQ1, sQ2, i64_w]
       rfl
      refine one_ (i := 4) (N := (some 47)) #[tt,tt,tt,tt,tt,ff] rfl rfl (one_of HT_.out (by kernel_rfl)) (by decide) (fun K hK => ?_)
      refine call_ (f := 34) #[.agg #[.int .i64 e.hn, .int .i64 e.hg]] (by rfl) rfl (by go_simp <;> rfl) ?_
      refine (COH.out _ _ w7).mono ?_
      rintro rr w8 ⟨rfl, hb⟩
      refine ⟨_, rfl, ?_⟩
      have H4 := Aside0.mk (And.intro (owg_step H3.out.1 hb) (blk_below H3.out.2 hb))
      clear hb
      refine hK.out _ _ ⟨fun i => blk_cell H4.out.2 i, fun i => blk_cell H4.out.1.2.1 i⟩ (fun hHeld => ?_)
      clear hK K
      refine norm_ (a' := ?_) ?_ ?_
      rotate_left
      ·show Act.put _ (some 47) _ = _
       simp only [Act.put, sQ0, sQ1, sQ2, i64_w]
       rfl
      refine pure_ (i := 5) (N := (some 48)) (v := ?_) (a' := ?_) #[tt,tt,tt,tt,tt,tt] rfl rfl (any_of HT_.out (by kernel_rfl)) (fun _ _ _ h => h) (Or.inl ⟨by rfl, ?_⟩) ?_ ?_
      rotate_left
      ·intro w'
       go_simp
       with_reducible rfl
      rotate_left
      ·simp only [Act.put, sQ0, sQ1, sQ2, i64_w]
       rfl
      refine done_ (done_of HT_.out (by kernel_rfl)) ?_
      clear hHeld
      have hct := fun i => blk_cell H4.out.2 i
      have hlt2 := blk_lt H4.out.2
      go_wp2
      go_roundw
      case rel => exact ⟨j + 1, x.2, by have := HJL.out; omega, by first | rw [hjj] | simp, rfl, ⟨HD.out, H4.out.1⟩⟩
      case measure => have := HJL.out; first | (rw [hjj]; simp [intOf]; omega) | (simp [intOf]; omega)
     ·have f1 : (x.1.1 == e.hn && (x.1.2 == e.hg)) = false := by cases q : (x.1.1 == e.hn && (x.1.2 == e.hg)) with | false => rfl | true => simp at q; exact absurd (Prod.ext q.1 q.2) hh
      have HD := Aside0.mk (HDS.out.2 hh)
      clear hh
      refine start_ (n := 6) (S := (fun w' => (∀ i, w'.cell? ⟨tb, i, none⟩ = (#[.int .i64 x.1.1, .int .i64 x.1.2, .int .i64 x.2] : Array Value)[i]?) ∧ (∀ i, w'.cell? ⟨yb, i, none⟩ = (evA e)[i]?))) (ds := []) #[ff,ff,ff,ff,ff,ff] (by kernel_rfl) rfl rfl ⟨fun i => blk_cell (blk_below HT.out.2 (below_drew (Below.refl _ _))) i, fun i => blk_cell (blk_below HT.out.1.2.1 (below_drew (Below.refl _ _))) i⟩ (fun hHeld => ?_)
      refine with_tabW moU.tab16 moU.bits16 (fun HT_ HW_ => ?_)
      have H3 := Aside0.mk (And.intro (owg_step HT.out.1 (below_drew (Below.refl _ _))) (blk_below HT.out.2 (below_drew (Below.refl _ _))))
      generalize W3.drew = w7 at H3 hHeld ⊢
      refine pure_ (i := 0) (N := (some 43)) (v := ?_) (a' := ?_) #[tt,ff,ff,ff,ff,ff] rfl rfl (any_of HT_.out (by kernel_rfl)) (fun _ _ _ h => h) (Or.inl ⟨by rfl, ?_⟩) ?_ ?_
      rotate_left
      ·intro w'
       go_simp
       with_reducible rfl
      rotate_left
      ·simp only [Act.put, sQ0, sQ1, sQ2, i64_w]
       rfl
      refine pure_ (i := 2) (N := (some 45)) (v := ?_) (a' := ?_) #[tt,ff,tt,ff,ff,ff] rfl rfl (any_of HT_.out (by kernel_rfl)) (fun _ _ _ h => h) (Or.inl ⟨by rfl, ?_⟩) ?_ ?_
      rotate_left
      ·intro w'
       go_simp
       with_reducible rfl
      rotate_left
      ·simp only [Act.put, sQ0, sQ1, sQ2, i64_w]
       rfl
      refine take_ (i := 1) (N := (some 44)) (v := ?_) (a' := ?_) #[tt,tt,tt,ff,ff,ff] rfl rfl (take_ofW HT_.out HW_.out (by kernel_rfl)) (fun _ _ _ h => h) (Or.inl ⟨by rfl, ?_⟩) hHeld ?_ ?_
      rotate_left
      ·rintro w' ⟨s0, s1⟩
       go_simp
       with_reducible rfl
      rotate_left
      ·simp only [Act.put, sQ0, sQ1, sQ2, i64_w]
       rfl
      refine take_ (i := 3) (N := (some 46)) (v := ?_) (a' := ?_) #[tt,tt,tt,tt,ff,ff] rfl rfl (take_ofW HT_.out HW_.out (by kernel_rfl)) (fun _ _ _ h => h) (Or.inl ⟨by rfl, ?_⟩) hHeld ?_ ?_
      rotate_left
      ·rintro w' ⟨s0, s1⟩
       go_simp
       with_reducible rfl
      rotate_left
      ·simp only [Act.put, sQ0, sQ1, sQ2, i64_w]
       rfl
      refine one_ (i := 4) (N := (some 47)) #[tt,tt,tt,tt,tt,ff] rfl rfl (one_of HT_.out (by kernel_rfl)) (by decide) (fun K hK => ?_)
      refine call_ (f := 34) #[.agg #[.int .i64 e.hn, .int .i64 e.hg]] (by rfl) rfl (by go_simp <;> rfl) ?_
      refine (COH.out _ _ w7).mono ?_
      rintro rr w8 ⟨rfl, hb⟩
      refine ⟨_, rfl, ?_⟩
      have H4 := Aside0.mk (And.intro (owg_step H3.out.1 hb) (blk_below H3.out.2 hb))
      clear hb
      refine hK.out _ _ ⟨fun i => blk_cell H4.out.2 i, fun i => blk_cell H4.out.1.2.1 i⟩ (fun hHeld => ?_)
      clear hK K
      refine norm_ (a' := ?_) ?_ ?_
      rotate_left
      ·show Act.put _ (some 47) _ = _
       simp only [Act.put, sQ0, sQ1, sQ2, i64_w]
       rfl
      refine pure_ (i := 5) (N := (some 48)) (v := ?_) (a' := ?_) #[tt,tt,tt,tt,tt,tt] rfl rfl (any_of HT_.out (by kernel_rfl)) (fun _ _ _ h => h) (Or.inl ⟨by rfl, ?_⟩) ?_ ?_
      rotate_left
      ·intro w'
       go_simp
       with_reducible rfl
      rotate_left
      ·simp only [Act.put, sQ0, sQ1, sQ2, i64_w]
       rfl
      refine done_ (done_of HT_.out (by kernel_rfl)) ?_
      clear hHeld
      have hct := fun i => blk_cell H4.out.2 i
      have hlt2 := blk_lt H4.out.2
      go_wp2
      go_roundw
      case rel => exact ⟨j + 1, d, by have := HJL.out; omega, by first | rw [hjj] | simp, rfl, ⟨HD.out, H4.out.1⟩⟩
      case measure => have := HJL.out; first | (rw [hjj]; simp [intOf]; omega) | (simp [intOf]; omega)
    ·have qj : ((j : Int) < (L.length : Int)) = False := eq_false (by omega)
     have hjL : j = L.length := by omega
     have HD : Aside0 (DueIs L (e.hn, e.hg) L.length d) := ⟨hjL ▸ HJ.out.1⟩
     clear hjL
     obtain ⟨c, hc⟩ : ∃ c, (doF m e).2 = c := ⟨_, rfl⟩
     have HC := Aside0.mk hc
     have HCK := Aside0.mk (clk_up (e := e) HI.out.2.1 (by have := HI.out.2.2.1; have := HN.out; omega))
     have k1 : decide ((doF m e).1.clk < m.clk) = false := decide_eq_false (by have := HCK.out; omega)
     clear hj hjg
     have hcy := fun i => blk_cell HJ.out.2.2.1 i
     have hly := blk_lt HJ.out.2.2.1
     go_wp2_with (first | (go_at_call 30; go_loud ((with_reducible refine (CO.out e _).mono ?_); rintro r w11 ⟨rfl, hb⟩; have Q1 := Aside0.mk (And.intro (HJ.out.2.1.step hb) (blk_below HJ.out.2.2.1 hb)); clear hb hcy hly)) | (go_at_call 43; go_loud ((with_reducible refine (Q1.out.1.doing (by have := HK60.out; omega) HW.out Q1.out.2).mono ?_); rw [hc]; rintro r w12 ⟨rfl, hq⟩; have Q2 := Aside0.mk hq; clear hq; have hcy := fun i => blk_cell Q2.out.2 i; have hly := blk_lt Q2.out.2)) | (go_at_call 41; refine (model_clock Q2.out.1.mw.md).mono ?_; rintro r w13 ⟨rfl, rfl⟩))
     have HO2 := Aside0.mk Q2.out
     clear Q1
     go_loopw [62] (fun v wq => ∃ j : Nat, j ≤ H.length ∧ v = .int .i64 j ∧ Aside0 (Ow w wq b m1 m2 (3 * k + 3) (doF m e).1 (.slice Ah H.length ch) (.slice As S.length cs) H S ∧ wq.heap[yb]? = some (.cells (evA e) 50 (0, 0)))) (fun v _ => H.length - (intOf v).toNat)
     case atStart => exact ⟨0, by omega, rfl, HO2⟩
     case round =>
      clear HO2 Q2 HJ hcy hly
      obtain ⟨j2, hj, rfl, HJ⟩ := hrel
      rcases Nat.lt_or_ge j2 H.length with hjl | hjg
      ·have pj : (0 : Int) ≤ (j2 : Int) := by omega
       have qj : ((j2 : Int) < (H.length : Int)) = True := eq_true (by omega)
       have qs : ((j2 : Int) < (S.length : Int)) = True := eq_true (by have := HSL.out; omega)
       have hjj : wrap64 ((j2 : Int) + 1) = ((j2 + 1 : Nat) : Int) := by have := HI.out.1; have := HKL.out; have := HN.out; unfold wrap64; omega
       obtain ⟨x, hx⟩ : ∃ x, H[j2]? = some x := ⟨_, List.getElem?_eq_getElem hjl⟩
       obtain ⟨o1, o2, o3⟩ := HJ.out.1.ov.st j2 x hx
       have HWX := Aside0.mk (HJ.out.1.ov.wf x (List.mem_of_getElem? hx))
       obtain ⟨gh, cp, hv, hcp, hgl, hcell⟩ := HJ.out.1.rh.at_ (fun _ => rfl) hx
       injection hv with hv1 hv2 hv3
       subst hv1
       obtain ⟨gs, cq, hw, hcq, hgm, hcels⟩ := HJ.out.1.rs.at_ (fun _ => rfl) o3
       injection hw with hw1 hw2 hw3
       subst hw1
       have d0 := hcell 0 (by decide)
       have d1 := hcell 1 (by decide)
       rw [Nat.add_zero] at d0
       have d0 : wr.cell? ⟨gh, j2 * 2, none⟩ = some (.int .i64 x.1) := d0
       have d1 : wr.cell? ⟨gh, j2 * 2 + 1, none⟩ = some (.int .i64 x.2) := d1
       have t0 := hcels 0 (by decide)
       rw [Nat.add_zero, Nat.mul_one] at t0
       have t0 : wr.cell? ⟨gs, j2, none⟩ = some (.int .i64 2) := t0
       have CST : Aside0 (∀ W, Ow w W b m1 m2 (3 * k + 3) (doF m e).1 (.slice (some ⟨gh, 0, none⟩) H.length ch) (.slice (some ⟨gs, 0, none⟩) S.length cs) H S → Calls Try.prog 33 #[pA b, .agg #[.int .i64 x.1, .int .i64 x.2]] W fun r w' => r = .returned (.int .i64 2) ∧ Below W.heap.size W w') := ⟨fun W hW => by have q := model_status x.1 x.2 HWX.out.1 HWX.out.2 hW.mw.md; rw [show (doF m e).1.st (x.1, x.2) = 2 from o2] at q; exact q⟩
       have HJL := Aside0.mk hjl
       have g5 : ((2 : Int) != 2) = false := by decide
       clear hcell hcp hv2 hv3 hcels hcq hw2 hw3 hx hjl hj o1 o2 o3
       replace pj := eq_true pj
       go_upto_region 25 with (fail)
       have HT0 := Aside0.mk (And.intro (HJ.out.1.step (below_alloc (Below.refl _ _) (.cells (haA x) 34))) (And.intro (blk_new wr (.cells (haA x) 34)) (blk_alloc HJ.out.2 (.cells (haA x) 34))))
       have HE0 := Aside0.mk (pw_cell_below (below_alloc (Below.refl wr.heap.size wr) (.cells (haA x) 34)) t0)
       obtain ⟨W3, hW3⟩ : ∃ W, wr.alloc (.cells (haA x) 34) = W := ⟨_, rfl⟩
       obtain ⟨tb, htb⟩ : ∃ t, wr.heap.size = t := ⟨_, rfl⟩
       have HT : Aside0 (Ow w W3 b m1 m2 (3 * k + 3) (doF m e).1 (.slice (some ⟨gh, 0, none⟩) H.length ch) (.slice (some ⟨gs, 0, none⟩) S.length cs) H S ∧ W3.heap[tb]? = some (.cells #[.int .i64 x.1, .int .i64 x.2] 34 (0, 0)) ∧ W3.heap[yb]? = some (.cells (evA e) 50 (0, 0))) := ⟨htb ▸ hW3 ▸ HT0.out⟩
       have HE : Aside0 (W3.cell? ⟨gs, j2, none⟩ = some (.int .i64 2)) := ⟨hW3 ▸ HE0.out⟩
       simp only [hW3, htb] at ⊢
       clear HT0 HE0 hW3 htb d0 d1 t0
       refine start_ (n := 8) (S := (fun w' => (∀ i, w'.cell? ⟨tb, i, none⟩ = (#[.int .i64 x.1, .int .i64 x.2] : Array Value)[i]?) ∧ (w'.cell? ⟨gs, j2, none⟩ = some (.int .i64 2)))) (ds := []) #[ff,ff,ff,ff,ff,ff,ff,ff] (by kernel_rfl) rfl rfl ⟨fun i => blk_cell (blk_below HT.out.2.1 (below_drew (Below.refl _ _))) i, pw_cell_below (below_drew (Below.refl W3.heap.size W3)) HE.out⟩ (fun hHeld => ?_)
       refine with_tabW moV.tab25 moV.bits25 (fun HT_ HW_ => ?_)
       have H3 := Aside0.mk (And.intro (HT.out.1.step (below_drew (Below.refl _ _))) (And.intro (blk_below HT.out.2.1 (below_drew (Below.refl _ _))) (blk_below HT.out.2.2 (below_drew (Below.refl _ _)))))
       have HE3 := Aside0.mk (pw_cell_below (below_drew (Below.refl W3.heap.size W3)) HE.out)
       generalize W3.drew = w7 at H3 HE3 hHeld ⊢
       refine pure_ (i := 0) (N := (some 67)) (v := ?_) (a' := ?_) #[tt,ff,ff,ff,ff,ff,ff,ff] rfl rfl (any_of HT_.out (by kernel_rfl)) (fun _ _ _ h => h) (Or.inl ⟨by rfl, ?_⟩) ?_ ?_
       rotate_left
       ·intro w'
        go_simp
        with_reducible rfl
       rotate_left
       ·simp only [Act.put, sQ0, sQ1, sQ2, i64_w]
        rfl
       refine pure_ (i := 3) (N := (some 70)) (v := ?_) (a' := ?_) #[tt,ff,ff,tt,ff,ff,ff,ff] rfl rfl (any_of HT_.out (by kernel_rfl)) (fun _ _ _ h => h) (Or.inl ⟨by rfl, ?_⟩) ?_ ?_
       rotate_left
       ·intro w'
        go_simp
        with_reducible rfl
       rotate_left
       ·simp only [Act.put, sQ0, sQ1, sQ2, i64_w]
        rfl
       refine pure_ (i := 4) (N := (some 71)) (v := ?_) (a' := ?_) #[tt,ff,ff,tt,tt,ff,ff,ff] rfl rfl (any_of HT_.out (by kernel_rfl)) (fun _ _ _ h => h) (Or.inl ⟨by rfl, ?_⟩) ?_ ?_
       rotate_left
       ·intro w'
        go_simp
        with_reducible rfl
       rotate_left
       ·simp only [Act.put, sQ0, sQ1, sQ2, i64_w]
        rfl
       refine pure_ (i := 5) (N := (some 72)) (v := ?_) (a' := ?_) #[tt,ff,ff,tt,tt,tt,ff,ff] rfl rfl (any_of HT_.out (by kernel_rfl)) (fun _ _ _ h => h) (Or.inl ⟨by rfl, ?_⟩) ?_ ?_
       rotate_left
       ·intro w'
        go_simp
        with_reducible rfl
       rotate_left
       ·simp only [Act.put, sQ0, sQ1, sQ2, i64_w]
        rfl
       refine take_ (i := 1) (N := (some 68)) (v := ?_) (a' := ?_) #[tt,tt,ff,tt,tt,tt,ff,ff] rfl rfl (take_ofW HT_.out HW_.out (by kernel_rfl)) (fun _ _ _ h => h) (Or.inl ⟨by rfl, ?_⟩) hHeld ?_ ?_
       rotate_left
       ·rintro w' ⟨s0, s1⟩
        go_simp
        with_reducible rfl
       rotate_left
       ·simp only [Act.put, sQ0, sQ1, sQ2, i64_w]
        rfl
       refine take_ (i := 6) (N := (some 73)) (v := ?_) (a' := ?_) #[tt,tt,ff,tt,tt,tt,tt,ff] rfl rfl (take_ofW HT_.out HW_.out (by kernel_rfl)) (fun _ _ _ h => h) (Or.inl ⟨by rfl, ?_⟩) hHeld ?_ ?_
       rotate_left
       ·rintro w' ⟨s0, s1⟩
        go_simp
        with_reducible rfl
       rotate_left
       ·simp only [Act.put, sQ0, sQ1, sQ2, i64_w]
        rfl
       refine one_ (i := 2) (N := (some 69)) #[tt,tt,tt,tt,tt,tt,tt,ff] rfl rfl (one_of HT_.out (by kernel_rfl)) (by decide) (fun K hK => ?_)
       refine call_ (f := 33) #[pA b, .agg #[.int .i64 x.1, .int .i64 x.2]] (by rfl) rfl (by go_simp <;> rfl) ?_
       refine (CST.out w7 H3.out.1).mono ?_
       rintro rr w8 ⟨rfl, hb⟩
       refine ⟨_, rfl, ?_⟩
       have H4 := Aside0.mk (And.intro (H3.out.1.step hb) (And.intro (blk_below H3.out.2.1 hb) (blk_below H3.out.2.2 hb)))
       have HE4 := Aside0.mk (pw_cell_below hb HE3.out)
       clear hb
       refine hK.out _ _ ⟨fun i => blk_cell H4.out.2.1 i, HE4.out⟩ (fun hHeld => ?_)
       clear hK K
       refine norm_ (a' := ?_) ?_ ?_
       rotate_left
       ·show Act.put _ (some 69) _ = _
        simp only [Act.put, sQ0, sQ1, sQ2, i64_w]
        rfl
       refine pure_ (i := 7) (N := (some 74)) (v := ?_) (a' := ?_) #[tt,tt,tt,tt,tt,tt,tt,tt] rfl rfl (any_of HT_.out (by kernel_rfl)) (fun _ _ _ h => h) (Or.inl ⟨by rfl, ?_⟩) ?_ ?_
       rotate_left
       ·intro w'
        go_simp
        with_reducible rfl
       rotate_left
       ·simp only [Act.put, sQ0, sQ1, sQ2, i64_w]
        rfl
       refine done_ (done_of HT_.out (by kernel_rfl)) ?_
       clear hHeld
       go_wp2
       go_roundw
       case rel => exact ⟨j2 + 1, by have := HJL.out; omega, by first | rw [hjj] | simp, ⟨H4.out.1, H4.out.2.2⟩⟩
       case measure => have := HJL.out; first | (rw [hjj]; simp [intOf]; omega) | (simp [intOf]; omega)
      ·have qj : ((j2 : Int) < (H.length : Int)) = False := eq_false (by omega)
       clear hj hjg
       have hcy := fun i => blk_cell HJ.out.2 i
       have hly := blk_lt HJ.out.2
       by_cases h0 : c = 0
       ·by_cases h4 : e.k = 4
        ·have g1 : (c != 0) = false := by rw [h0]; rfl
         have g2 : (e.k != 4) = false := by rw [h4]; rfl
         have HFI := Aside0.mk (fired HI.out.2.2.2.mw.ok HW.out HA.out HD.out (by rw [HC.out]; exact h0) h4)
         have f0 : decide (d < 0) = false := decide_eq_false (by have := HFI.out.1; omega)
         have f1 : decide (e.t < d) = false := decide_eq_false (by have := HFI.out.2.1; omega)
         have g6 : ((2 : Int) == 1) = false := by decide
         have CSF : Aside0 (∀ W, MdIs W w.heap.size b (3 * k + 3) (doF m e).1 m1 m2 → Calls Try.prog 33 #[pA b, .agg #[.int .i64 e.hn, .int .i64 e.hg]] W fun r w' => r = .returned (.int .i64 2) ∧ Below W.heap.size W w') := ⟨fun W hW => by have q := model_status e.hn e.hg HW.out.1.1 HW.out.1.2.1 hW; rw [HFI.out.2.2.2] at q; exact q⟩
         have HLH := Aside0.mk (show H.length ≤ 1000000 by have := HI.out.1; have := HK60.out; omega)
         have HLS := Aside0.mk (show S.length ≤ 1000000 by have := HSL.out; have := HI.out.1; have := HK60.out; omega)
         clear h0 h4
         have Q4 := Aside0.mk (show Ow w wr b m1 m2 (3 * k + 3) (doF m e).1 (.slice Ah H.length ch) (.slice As S.length cs) H S ∧ wr.heap[yb]? = some (.cells (evA e) 50 (0, 0)) from HJ.out)
         have hcy := fun i => blk_cell Q4.out.2 i
         have hly := blk_lt Q4.out.2
         go_wp2_with (first | (go_at_call 34; go_loud ((with_reducible refine (COH.out _ _ _).mono ?_); rintro r w16 ⟨rfl, hb⟩; (first | (have Q8 := Aside0.mk (And.intro (Q7.out.1.step hb) (And.intro (pw_own_below Q7.out.2.1 hb) (And.intro (pw_own_below Q7.out.2.2.1 hb) (blk_below Q7.out.2.2.2 hb)))); clear hb hcy hly Q7; have Q7 := Q8; clear Q8; have hcy := fun i => blk_cell Q7.out.2.2.2 i; have hly := blk_lt Q7.out.2.2.2) | (have Q5 := Aside0.mk (And.intro (Q4.out.1.step hb) (blk_below Q4.out.2 hb)); clear hb hcy hly Q4; have Q4 := Q5; clear Q5; have hcy := fun i => blk_cell Q4.out.2 i; have hly := blk_lt Q4.out.2)))) | (go_at_call 33; go_loud ((first | (with_reducible refine (CSF.out _ Q7.out.1.md).mono ?_) | (with_reducible refine (CSF.out _ Q4.out.1.mw.md).mono ?_)); rintro r w17 ⟨rfl, hb⟩; (first | (have Q8 := Aside0.mk (And.intro (Q7.out.1.step hb) (And.intro (pw_own_below Q7.out.2.1 hb) (And.intro (pw_own_below Q7.out.2.2.1 hb) (blk_below Q7.out.2.2.2 hb)))); clear hb hcy hly Q7; have Q7 := Q8; clear Q8; have hcy := fun i => blk_cell Q7.out.2.2.2 i; have hly := blk_lt Q7.out.2.2.2) | (have Q5 := Aside0.mk (And.intro (Q4.out.1.step hb) (blk_below Q4.out.2 hb)); clear hb hcy hly Q4; have Q4 := Q5; clear Q5; have hcy := fun i => blk_cell Q4.out.2 i; have hly := blk_lt Q4.out.2)))) | (at_builtin; refine RowIs.append_wpl (by rfl) 31 16 _ _ _ Try.underlying31 ha_info rfl (by decide) rfl Q4.out.1.rh (e.hn, e.hg) rfl (by simp [Value.oneCell']) (by rfl) (by rfl) HLH.out (by decide) Q4.out.1.mw.bel.size ?_; go_loud (intro gg cap6 w18 hown hgrow hat6; have Q7 := Aside0.mk (app_h Q4.out.1 Q4.out.2 hown hgrow); clear hown hgrow hat6 hcy hly Q4; have hcy := fun i => blk_cell Q7.out.2.2.2 i; have hly := blk_lt Q7.out.2.2.2)) | (at_builtin; refine RowIs.append_wpl (by rfl) 29 8 _ _ _ Try.underlying29 in_info rfl (by decide) rfl Q7.out.2.2.1 (2 : Int) rfl (by simp [Value.oneCell']) (by rfl) (by rfl) HLS.out (by decide) Q7.out.1.bel.size ?_; go_loud (intro gg2 cap7 w19 hown hgrow hat7; have Q9 := Aside0.mk (app_s Q7.out.1 Q7.out.2.1 Q7.out.2.2.1 hown hgrow); clear hown hgrow hat7)))
         have HOV := Aside0.mk (HJ.out.1.ov.add (x := (e.hn, e.hg)) ⟨HW.out.1.1, HW.out.1.2.1⟩ HFI.out.2.2.1 HFI.out.2.2.2)
         go_roundw
         case rel => exact ⟨k + 1, (doF m e).1, _, _, H ++ [(e.hn, e.hg)], S ++ [2], by have := HKL.out; omega, by first | rw [hnn] | simp, rfl, rfl, ⟨by have := HI.out.1; simp; omega, by have := HI.out.2.1; have := HCK.out.1; omega, by have := HI.out.2.2.1; have := HCK.out.2; omega, by rw [show 3 * (k + 1) = 3 * k + 3 by omega]; exact ⟨Q9.out.1, Q9.out.2.1, Q9.out.2.2, HOV.out⟩⟩⟩
         case measure => have := HKL.out; first | (rw [hnn]; simp [intOf]; omega) | (simp [intOf]; omega)
        ·have g1 : (c != 0) = false := by rw [h0]; rfl
         have g2 : (e.k != 4) = true := bne_iff_ne.2 h4
         clear h0 h4
         go_wp2
         go_roundw
         case rel => exact ⟨k + 1, (doF m e).1, _, _, H, S, by have := HKL.out; omega, by first | rw [hnn] | simp, rfl, rfl, ⟨by have := HI.out.1; omega, by have := HI.out.2.1; have := HCK.out.1; omega, by have := HI.out.2.2.1; have := HCK.out.2; omega, by rw [show 3 * (k + 1) = 3 * k + 3 by omega]; exact HJ.out.1⟩⟩
         case measure => have := HKL.out; first | (rw [hnn]; simp [intOf]; omega) | (simp [intOf]; omega)
       ·have g1 : (c != 0) = true := bne_iff_ne.2 h0
        clear h0
        go_wp2
        go_roundw
        case rel => exact ⟨k + 1, (doF m e).1, _, _, H, S, by have := HKL.out; omega, by first | rw [hnn] | simp, rfl, rfl, ⟨by have := HI.out.1; omega, by have := HI.out.2.1; have := HCK.out.1; omega, by have := HI.out.2.2.1; have := HCK.out.2; omega, by rw [show 3 * (k + 1) = 3 * k + 3 by omega]; exact HJ.out.1⟩⟩
        case measure => have := HKL.out; first | (rw [hnn]; simp [intOf]; omega) | (simp [intOf]; omega)
  ·have q0 : ((k : Int) < (l.length : Int)) = False := eq_false (by omega)
   clear hk hge
   go_wp2
   go_ret
   exact ⟨rfl, HI.out.2.2.2.mw.bel⟩
end Go.Proofs.Ythniclbmpeklmaa.Mo
end
section
namespace Go.Proofs.Ythniclbmpeklmaa.KJf
open Go.RowKit Go.Proofs.YthniclbmpeklmaaW.PrintWords Go.Proofs.Ythniclbmpeklmaa.Ju
set_option linter.unusedVariables false
def toEv (x : S50) : Au.Ev := ⟨x.f0, x.f1, x.f2, x.f3.f0, x.f3.f1, x.f4.f0, x.f4.f1, x.f5, x.f6, x.f7, x.f8, x.f9⟩
theorem evs_in {A1 : Option Addr} {l1 : List S50} {w : World} (hr1 : Kd.C k50 w A1 l1.length l1) (i : Nat) (e : Au.Ev) (he : (l1.map toEv)[i]? = some e) : EvIn w A1 i e := by
 rw [List.getElem?_map] at he
 obtain ⟨z, hz, rfl⟩ := Option.map_eq_some_iff.1 he
 have hi : i < l1.length := (List.getElem?_eq_some_iff.1 hz).1
 have hrd : rd_T50 l1 (i : Int) = z := by
  show l1.getD i z50 = z
  rw [List.getD_eq_getElem?_getD, hz]; rfl
 have hat := at_T50 hr1 (i : Int) (by omega) (by omega)
 rw [hrd] at hat
 exact hat
theorem evs_wf {l1 : List S50} (hw : ∀ x ∈ l1, wfB' (toEv x) = true) (e : Au.Ev) (he : e ∈ l1.map toEv) : wfJ e := by
 obtain ⟨z, hz, rfl⟩ := List.mem_map.1 he
 exact wfJ_of (hw z hz)
end Go.Proofs.Ythniclbmpeklmaa.KJf
end
section
namespace Go.Proofs.Ythniclbmpeklmaa.KJf
open Go.RowKit Go.Proofs.YthniclbmpeklmaaW.PrintWords Go.Proofs.Ythniclbmpeklmaa.Ju
set_option linter.unusedVariables false
def knelllaw12_ModelOnce.f (l1 : List S50) : Option Bool := if ∀ x ∈ l1, wfB' (toEv x) = true then some true else none
theorem knelllaw12_ModelOnce.calls (A1 : Option Addr) (q1 : Nat) (l1 : List S50) (r : Bool) (w : World) (hr1 : Kd.C k50 w A1 l1.length l1) (hc1 : l1.length ≤ q1)
  (h : knelllaw12_ModelOnce.f l1 = some r) :
  Calls Try.prog 11 #[.slice A1 l1.length q1] w fun e w' => e = .returned (.bool r) ∧ Below w.heap.size w w' := by
 unfold knelllaw12_ModelOnce.f at h
 split at h
 ·rename_i hw
  obtain rfl := Option.some.inj h
  rcases Nat.lt_or_ge 60 l1.length with hn | hn
  ·exact Mo.once_long A1 _ q1 hn w
  ·have q := Mo.once_main A1 q1 (l1.map toEv) (by rw [List.length_map]; exact hn) w (evs_in hr1) (evs_wf hw)
   rw [List.length_map] at q
   exact q
 ·cases h
theorem ModelOnce (l1 : List S50) (hw : ∀ x ∈ l1, wfB' (toEv x) = true) : knelllaw12_ModelOnce.f l1 = some true := if_pos hw
end Go.Proofs.Ythniclbmpeklmaa.KJf
end
section
namespace Go.Proofs.Ythniclbmpeklmaa.Krow
open Go.ChangeShapes Go.WideShapes Go.Deep Go.Proofs.YthniclbmpeklmaaW.PrintWords
inductive Leaf where
 | int (k : IntKind)
 | bool
def Leaf.ok : Leaf → Value → Prop
 | .int k, v => ∃ n, v = .int k n ∧ (Lit.int k n).wf = true
 | .bool, v => ∃ b, v = .bool b
def Leaves : List Leaf → List Value → Prop
 | [], [] => True
 | l :: ls, v :: vs => l.ok v ∧ Leaves ls vs
 | _, _ => False
theorem Leaves.length : ∀ {ls : List Leaf} {vs : List Value}, Leaves ls vs → vs.length = ls.length
 | [], [], _ => rfl
 | _ :: _, _ :: _, h => by simp [Leaves.length h.2]
theorem Leaves.append : ∀ {a b : List Leaf} {vs ws : List Value}, Leaves a vs → Leaves b ws → Leaves (a ++ b) (vs ++ ws)
 | [], _, [], _, _, h => h
 | _ :: _, _, _ :: _, _, h, h' => ⟨h.1, Leaves.append h.2 h'⟩
theorem Leaves.int {k : IntKind} {ls : List Leaf} {vs : List Value} (h : Leaves (.int k :: ls) vs) : ∃ n r, vs = .int k n :: r ∧ (Lit.int k n).wf = true ∧ Leaves ls r := by
 match vs, h with
 | _ :: r, ⟨⟨n, rfl, hw⟩, h⟩ => exact ⟨n, r, rfl, hw, h⟩
theorem Leaves.boole {ls : List Leaf} {vs : List Value} (h : Leaves (.bool :: ls) vs) : ∃ b r, vs = .bool b :: r ∧ Leaves ls r := by
 match vs, h with
 | _ :: r, ⟨⟨b, rfl⟩, h⟩ => exact ⟨b, r, rfl, h⟩
theorem Leaves.nil {vs : List Value} (h : Leaves [] vs) : vs = [] := by
 match vs, h with
 | [], _ => rfl
theorem collect {α : Type} {p : Nat → α → Prop} {len : Nat} (key : ∀ i, i < len → ∃ x : α, p i x) : ∃ l : List α, l.length = len ∧ ∀ i x, l[i]? = some x → p i x := by
 induction len with
 | zero => exact ⟨[], rfl, fun i x h => by simp at h⟩
 | succ len ih =>
  obtain ⟨l, hl, hx⟩ := ih (fun i hi => key i (by omega))
  obtain ⟨x, hp⟩ := key len (by omega)
  refine ⟨l ++ [x], by simp [hl], fun i y hy => ?_⟩
  by_cases hi : i < len
  ·rw [List.getElem?_append_left (by omega)] at hy
   exact hx i y hy
  ·rw [List.getElem?_append_right (by omega)] at hy
   have : i - l.length = 0 := by
    have := (List.getElem?_eq_some_iff.1 hy).1
    simp at this
    omega
   rw [this] at hy
   obtain rfl : x = y := by simpa using hy
   obtain rfl : i = len := by omega
   exact hp
def fieldsOf (f : TypeId → Option (List Leaf)) (P : Program) : List Field → Nat → Option (List Leaf)
 | [], _ => some []
 | x :: r, off => (f x.type).bind fun ls => if x.offset = off ∧ P.cellsOf x.type = ls.length then (fieldsOf f P r (off + ls.length)).map (ls ++ ·) else none
def plainOf (P : Program) : Nat → TypeId → Option (List Leaf)
 | 0, _ => none
 | n + 1, t => match P.underlying t with
  | some (.int k) => some [.int k]
  | some .bool => some [.bool]
  | some (.struct fs) => (fieldsOf (plainOf P n) P fs.toList 0).bind fun ls => if P.cellsOf t = ls.length then some ls else none
  | some (.array m e) => (plainOf P n e).bind fun ls => if P.cellsOf e = ls.length ∧ P.cellsOf t = m * ls.length then some ((List.replicate m ls).flatten) else none
  | _ => none
section
variable {H : Type} {enc : TypeId × Value → H} {P : Program} {w : World} {base : Nat} {spare : Nat → Bool} {held : Bool}
theorem fields_leaves {n : Nat} (ih : ∀ (t : TypeId) (ls : List Leaf) (fuel : Nat) (cs : List Value) (x : DataW H × List MemPlace), plainOf P n t = some ls → DataW.trod enc P w base spare held fuel t cs = some x → Leaves ls cs) (cs : List Value) (m : Nat) :
  ∀ (fs : List Field) (off : Nat) (ls : List Leaf), (∀ (i : Nat) (f : Field), fs[i]? = some f → ∃ x, DataW.trod enc P w base spare held m f.type ((cs.drop f.offset).take (P.cellsOf f.type)) = some x) →
   fieldsOf (plainOf P n) P fs off = some ls → Leaves ls ((cs.drop off).take ls.length) := by
 intro fs
 induction fs with
 | nil =>
  intro off ls _ h
  simp only [fieldsOf, Option.some.injEq] at h
  subst h
  simp [Leaves]
 | cons f r ihr =>
  intro off ls hx h
  simp only [fieldsOf] at h
  obtain ⟨l1, h1, h⟩ := Option.bind_eq_some_iff.1 h
  by_cases hc : f.offset = off ∧ P.cellsOf f.type = l1.length
  ·rw [if_pos hc] at h
   obtain ⟨l2, h2, rfl⟩ := Option.map_eq_some_iff.1 h
   obtain ⟨x, hx0⟩ := hx 0 f rfl
   rw [hc.1, hc.2] at hx0
   have a1 := ih f.type l1 m _ x h1 hx0
   have a2 := ihr (off + l1.length) l2 (fun i g hg => hx (i + 1) g hg) h2
   have e : (cs.drop off).take (l1 ++ l2).length = (cs.drop off).take l1.length ++ (cs.drop (off + l1.length)).take l2.length := by
    rw [List.length_append, List.take_add, List.drop_drop]
   rw [e]
   exact a1.append a2
  ·rw [if_neg hc] at h
   cases h
theorem blocks_leaves (ls : List Leaf) (cs : List Value) : ∀ (m off : Nat), (∀ i, i < m → Leaves ls ((cs.drop ((off + i) * ls.length)).take ls.length)) → Leaves ((List.replicate m ls).flatten) ((cs.drop (off * ls.length)).take (m * ls.length)) := by
 intro m
 induction m with
 | zero => intro off _; simp [Leaves]
 | succ m ih =>
  intro off h
  have a1 := h 0 (by omega)
  have a2 := ih (off + 1) (fun i hi => by have := h (i + 1) (by omega); rw [show off + 1 + i = off + (i + 1) by omega]; exact this)
  rw [Nat.add_zero] at a1
  rw [List.replicate_succ, List.flatten_cons, show (m + 1) * ls.length = ls.length + m * ls.length by rw [Nat.add_mul]; omega, List.take_add, List.drop_drop, show off * ls.length + ls.length = (off + 1) * ls.length by rw [Nat.add_mul]; omega]
  exact a1.append a2
theorem plain_trod : ∀ (n : Nat) (t : TypeId) (ls : List Leaf) (fuel : Nat) (cs : List Value) (x : DataW H × List MemPlace), plainOf P n t = some ls → DataW.trod enc P w base spare held fuel t cs = some x → Leaves ls cs := by
 intro n
 induction n with
 | zero => intro t ls fuel cs x h; cases h
 | succ n ih =>
  intro t ls fuel cs x h hx
  unfold plainOf at h
  split at h
  ·rename_i k hu
   obtain rfl := Option.some.inj h
   obtain ⟨a, rfl, _, hw⟩ := DataW.trod_int hu hx
   exact ⟨⟨a, rfl, hw⟩, trivial⟩
  ·rename_i hu
   obtain rfl := Option.some.inj h
   obtain ⟨b, rfl, _⟩ := DataW.trod_bool hu hx
   exact ⟨⟨b, rfl⟩, trivial⟩
  ·rename_i fs hu
   obtain ⟨l, h1, h⟩ := Option.bind_eq_some_iff.1 h
   by_cases hc : P.cellsOf t = l.length
   ·rw [if_pos hc] at h
    obtain rfl := Option.some.inj h
    obtain ⟨xs, m, _, _, hl, hlen, hf⟩ := DataW.trod_struct hu hx
    have := fields_leaves ih cs m fs.toList 0 l (fun i f hi => by
     have hi' : fs[i]? = some f := by simpa using hi
     rw [hf i f hi']
     have : i < xs.length := by rw [hlen]; exact (Array.getElem?_eq_some_iff.1 hi').1
     exact ⟨_, List.getElem?_eq_getElem this⟩) h1
    rw [List.drop_zero, List.take_of_length_le (by omega)] at this
    exact this
   ·rw [if_neg hc] at h
    cases h
  ·rename_i m e hu
   obtain ⟨l, h1, h⟩ := Option.bind_eq_some_iff.1 h
   by_cases hc : P.cellsOf e = l.length ∧ P.cellsOf t = m * l.length
   ·rw [if_pos hc] at h
    obtain rfl := Option.some.inj h
    obtain ⟨xs, q, _, _, hl, hlen, hf⟩ := DataW.trod_array hu hx
    have := blocks_leaves l cs m 0 (fun i hi => by
     have h2 := hf i hi
     rw [List.getElem?_eq_getElem (by omega), hc.1] at h2
     rw [Nat.zero_add]
     exact ih e l q _ _ h1 h2)
    rw [Nat.zero_mul, List.drop_zero, List.take_of_length_le (by omega)] at this
    exact this
   ·rw [if_neg hc] at h
    cases h
  ·cases h
theorem open_plain {r : Reach} {b0 : Nat} {t : TypeId} {v : Value} {d : DataW H} {ps : List MemPlace} {n : Nat} {ls : List Leaf} (hp : plainOf P n t = some ls) (ha : (match P.underlying t with | some (.struct _) | some (.array _ _) => true | _ => false) = true)
  (hv : Value.okWide P w r b0 t v) (h : DataW.Trod enc P w base spare held t v d ps) : ∃ cs : List Value, v = .agg cs.toArray ∧ Leaves ls cs := by
 obtain ⟨fuel, hf⟩ := h
 unfold Value.okWide at hv
 have key : ∃ cs, v = .agg cs := by
  split at hv
  ·obtain ⟨cs, h1, _⟩ := hv; exact ⟨cs, h1⟩
  ·obtain ⟨cs, h1, _⟩ := hv; exact ⟨cs, h1⟩
  ·rename_i h1 h2
   split at ha
   ·rename_i fs he; exact absurd he (h1 fs)
   ·rename_i a e he; exact absurd he (h2 a e)
   ·cases ha
 obtain ⟨cs, rfl⟩ := key
 have h2 := plain_trod n t ls fuel _ _ hp hf
 exact ⟨cs.toList, by simp, by simpa [Value.cells] using h2⟩
theorem open_rows {α : Type} (D : Kd α) (good : α → Prop) {r : Reach} {b0 : Nat} {t e : TypeId} {v : Value} {d : DataW H} {ps : List MemPlace} {n : Nat} {ls : List Leaf} (hu : P.underlying t = some (.slice e)) (hp : plainOf P n e = some ls) (hc : P.cellsOf e = ls.length) (hsz : D.sz = ls.length)
  (mk : ∀ cs : List Value, Leaves ls cs → ∃ x : α, D.K w x cs ∧ good x)
  (hv : Value.okWide P w r b0 t v) (h : DataW.Trod enc P w base spare held t v d ps) :
  ∃ (A : Option Addr) (c : Nat) (l : List α), v = .slice A l.length c ∧ l.length ≤ c ∧ l.length ≤ 9223372036854775807 ∧ Kd.C D w A l.length l ∧ ∀ x ∈ l, good x := by
 obtain ⟨A, len, cap, rfl⟩ := okWide_slice hu hv
 obtain ⟨fuel, hf⟩ := h
 rcases open_slice hu hf with ⟨hcs, _⟩ | ⟨a, len', cap', m, q, Ds, Pl, hcs, _, hl, hm, hmm, _, hi⟩
 ·simp [Value.cells] at hcs
  obtain ⟨rfl, rfl, rfl⟩ := hcs
  exact ⟨none, 0, [], rfl, Nat.le_refl _, by simp, ⟨rfl, by simp, fun h => absurd h (by simp)⟩, by simp⟩
 ·simp [Value.cells] at hcs
  obtain ⟨rfl, rfl, rfl⟩ := hcs
  have hlm : len ≤ m := by
   rw [hmm]
   split
   ·exact hl
   ·exact Nat.le_refl _
  have key : ∀ i, i < len → ∃ (x : α) (cs : List Value), D.K w x cs ∧ good x ∧ cs.length = ls.length ∧ ∀ j u, cs[j]? = some u → w.cell? (a.add (i * ls.length + j)) = some u := by
   intro i hil
   obtain ⟨cs', h1, h2⟩ := hi i (by omega)
   rw [hc] at h1
   obtain ⟨_, hlen, hcell⟩ := World.cells?_some h1
   obtain ⟨x, hx, hg⟩ := mk cs' (plain_trod n e ls q cs' _ hp h2)
   refine ⟨x, cs', hx, hg, hlen, fun j u hu => ?_⟩
   have hj : j < ls.length := by rw [← hlen]; exact (List.getElem?_eq_some_iff.1 hu).1
   rw [← Go.Deep.add_add, hcell j hj, hu]
  have ch := collect key
  obtain ⟨l, rfl, hx⟩ := ch
  have hm' : cap ≤ 9223372036854775807 := hm
  refine ⟨some a, cap, l, rfl, hl, by omega, ⟨rfl, by omega, fun _ => ⟨a, rfl, fun j p hj => ?_⟩⟩, fun x hxl => ?_⟩
  ·obtain ⟨cs, h1, _, h3, h4⟩ := hx j p hj
   refine ⟨cs, by rw [h3, hsz], h1, ?_⟩
   rw [hsz]
   exact h4
  ·obtain ⟨i, hi⟩ := List.mem_iff_getElem?.1 hxl
   obtain ⟨_, _, h2, _⟩ := hx i x hi
   exact h2
end
end Go.Proofs.Ythniclbmpeklmaa.Krow
end
