/- What is proved: a part of the way to the statement AuditSlackSaid: AuE, AuV, AuX, AuY, AuW, AuZ, KSlx0, KSlx1, KSlx2, AuI, Krow; no conditions. Put together by a program of this session (claimv.py). -/
import Derived.Test.YthniclbmpeklmaaProg
import Derived.Below
import Derived.Deep.Draws
import Derived.Deep.AppendLies
import Derived.Maps.AppendAt
import Derived.OwnWalk
import Derived.Laws.BytesArg
import Derived.Laws.MakeOwn
import Derived.Laws.OwnMore
import Derived.Deep.OwnRows
import Derived.Tactics
import Derived.Lib.ConvBytes
import Derived.Laws.Slices
import Derived.WalkKit
import Derived.KernelRfl
import Derived.RowKit3
import Derived.Deep.LoopGhost
import Derived.Deep.QuietTactic
import Derived.BigQuiet
import Derived.WideLaws
import Derived.Deep.DeepCutAuto
import Derived.Deep.CutBlock
import Derived.Deep.RegionHeld3
import Derived.Laws.Rows
import Derived.Lib.AppendStr
import Derived.ArgAppend
import Derived.Laws.IdiomCopy
import Derived.OrdersHeld
import Derived.Laws.BitsLemmas
import Derived.RowKit
import Derived.ChangeArms
import Derived.WideShapes
import Derived.OpenShut
import Derived.Deep.Slices
import Derived.Test.YthniclbmpeklmaaVas2
section
namespace Go.Proofs.Ythniclbmpeklmaa.Au
open Go.RowKit Go.Maps Go.Proofs.YthniclbmpeklmaaW.PrintWords Go.Proofs.YthniclbmpeklmaaW.PrintLast Go.Proofs.YthniclbmpeklmaaW.PrintMore Go.Proofs.Ythniclbmpeklmaa.Mp
set_option linter.unusedVariables false
set_option linter.unusedSimpArgs false
def cV (cnt : Ha → Nat) : Ha → Option Value := fun h => if cnt h = 0 then none else some (.int .i64 (cnt h : Nat))
theorem cV_at (cnt : Ha → Nat) (h : Ha) : (cV cnt h).getD (.int .i64 0) = .int .i64 (cnt h : Nat) := by
 unfold cV
 by_cases e : cnt h = 0
 ·rw [if_pos e, e]; rfl
 ·rw [if_neg e]; rfl
def inc (cnt : Ha → Nat) (h : Ha) : Ha → Nat := fun x => if x = h then cnt x + 1 else cnt x
theorem cV_inc (cnt : Ha → Nat) (h : Ha) : (fun l => if l = h then some (.int .i64 ((cnt h : Nat) + 1 : Int)) else cV cnt l) = cV (inc cnt h) := by
 funext l
 unfold cV inc
 by_cases e : l = h
 ·subst e; simp
 ·simp [e]
theorem lawHK : WideMaps.KeyLaw Try.prog 34 := deep_law_laid laidOut_ (m := 3) (by decide) (of_decide_eq_true (by kernel_rfl)) (by kernel_rfl) (by kernel_rfl)
theorem look_same {w : World} {mf z : Nat} {f : Ha → Option Value} {hn hg : Int} {v : Value} (h : MapIs haV Try.prog 34 w mf z f) {kl : Lit} (hk : keyOf Try.prog 34 (haV (hn, hg)) = some kl) (hv : (f (hn, hg)).getD (.int .i64 0) = v) :
  (Instr.lookup 86 (.map (some mf)) (.agg #[.int .i64 hn, .int .i64 hg]) false).run Try.prog w = .ok v w := by
 have := h.look lawH Try.underlying86 (zeroI w) (x := (hn, hg)) hk
 rw [hv] at this
 exact this
theorem look_c {w : World} {mf z : Nat} {cnt : Ha → Nat} (h : MapIs haV Try.prog 34 w mf z (cV cnt)) {hn hg : Int} {kl : Lit} (hk : keyOf Try.prog 34 (haV (hn, hg)) = some kl) (W : World) (hb : W.heap[mf]? = w.heap[mf]?) :
  (Instr.lookup 86 (.map (some mf)) (.agg #[.int .i64 hn, .int .i64 hg]) false).run Try.prog W = .ok (.int .i64 (cnt (hn, hg) : Nat)) W := look_same (h.move hb) hk (cV_at cnt (hn, hg))
theorem grown_drew {w w1 : World} {r : Option Nat} (h : w.grownBy w1 r) : w.grownBy w1.drew r := ⟨h.os, h.tape, h.output, h.size, h.block⟩
def twiceR.T1 : Bool × List (List Nat × List Nat) := (true, [([], []), ([], []), ([1], [1]), ([0, 2], [0, 2]), ([3], [3]), ([0, 2, 0, 1, 2], [0, 2]), ([5], [5]), ([0, 6, 4, 5, 0, 1, 2, 3, 4, 5, 6], [0, 4, 6])])
def twiceR.B1 : List Nat := [0, 0, 2, 7, 15, 7, 39, 127]
theorem twiceR.tab1 : rtab .any (opsOf Try.f49 1) = twiceR.T1 := by kernel_rfl
theorem twiceR.bits1 : waitsOk twiceR.T1.2 twiceR.B1 = true := by kernel_rfl
structure Ct (W : World) (fb mf z : Nat) (cnt : Ha → Nat) : Prop where
 fb_ : W.heap[fb]? = some (.cells #[.map (some mf)] 86 (0, 0))
 mf_ : MapIs haV Try.prog 34 W mf z (cV cnt)
set_option maxHeartbeats 4000000 in
set_option maxRecDepth 100000 in
theorem twice_clo1 {fb mf z : Nat} {cnt : Ha → Nat} (i : Nat) (e : Ev) (w : World) (hC : Ct w fb mf z cnt) (hw : ∃ kl, keyOf Try.prog 34 (haV e.h) = some kl) (hz : z ≤ 1000000) (hcb : cnt e.h ≤ 1000000) :
  Calls Try.prog 49 #[.int .i64 (i : Int), .agg (evA e), .pointer (some ⟨fb, 0, none⟩)] w fun r w' => r = .returned (.bool (decide (cnt e.h + 1 > 1))) ∧ (∃ z', z' ≤ z + 1 ∧ Ct w' fb mf z' (inc cnt e.h)) ∧ w.grownBy w' (some mf) := by
 have hu54 := Try.underlying54
 have hu34 := Try.underlying34
 obtain ⟨kl, hkl⟩ := hw
 have HM1 := Aside0.mk (hC.mf_.move (w' := w.alloc (.cells (evA e) 54)) (Below.heap_alloc w _ mf hC.mf_.lt))
 have HF1 := Aside0.mk (blk_alloc hC.fb_ (.cells (evA e) 54))
 have HE1 := Aside0.mk (blk_new w (.cells (evA e) 54))
 have HZ := Aside0.mk hz
 have HCB := Aside0.mk hcb
 obtain ⟨_, _, qm⟩ := HM1.out.block
 have HNF := Aside0.mk (map_ne HF1.out qm)
 have HNE := Aside0.mk (map_ne HE1.out qm)
 have hlf := blk_lt hC.fb_
 clear hC hz hcb qm
 have hww : wrap64 ((cnt e.h : Nat) + 1) = ((cnt e.h : Nat) + 1 : Int) := by have := HCB.out; unfold wrap64; omega
 have HWW := Aside0.mk hww
 clear hww
 go_enter Try.func49, Try.ntmps49
 go_upto_region 1 with (fail)
 refine start_ (n := 8) (S := (fun w' => (∀ i, w'.cell? ⟨fb, i, none⟩ = (#[.map (some mf)] : Array Value)[i]?) ∧ (∀ i, w'.cell? ⟨w.heap.size, i, none⟩ = (evA e)[i]?) ∧ (Instr.lookup 86 (.map (some mf)) (.agg #[.int .i64 e.hn, .int .i64 e.hg]) false).run Try.prog w' = .ok (.int .i64 (cnt e.h : Nat)) w')) (ds := [7]) #[ff,ff,ff,ff,ff,ff,ff,ff] (by kernel_rfl) rfl rfl ⟨fun i => blk_cell HF1.out i, fun i => blk_cell HE1.out i, look_c HM1.out hkl _ rfl⟩ (fun hHeld => ?_)
 refine with_tabW twiceR.tab1 twiceR.bits1 (fun HT_ HW_ => ?_)
 have HM3 := Aside0.mk (HM1.out.move (w' := (w.alloc (.cells (evA e) 54)).drew) rfl)
 have HF3 := Aside0.mk (blk_drew HF1.out)
 have HE3 := Aside0.mk (blk_drew HE1.out)
 have HG3 := Aside0.mk (grown_drew (World.grownBy_alloc w (.cells (evA e) 54) (some mf)))
 generalize (w.alloc (.cells (evA e) 54)).drew = w3 at HM3 HF3 HE3 HG3 hHeld ⊢
 refine pure_ (i := 1) (N := (some 7)) (v := ?_) (a' := ?_) #[ff,tt,ff,ff,ff,ff,ff,ff] rfl rfl (any_of HT_.out (by kernel_rfl)) (fun _ _ _ h => h) (Or.inl ⟨by rfl, ?_⟩) ?_ ?_
 rotate_left
 ·intro w'
  go_simp
  with_reducible rfl
 rotate_left
 ·simp only [Act.put, sQ0, sQ1, sQ2, i64_w]
  rfl
 refine take_ (i := 0) (N := (some 6)) (v := ?_) (a' := ?_) #[tt,tt,ff,ff,ff,ff,ff,ff] rfl rfl (take_ofW HT_.out HW_.out (by kernel_rfl)) (fun _ _ _ h => h) (Or.inl ⟨by rfl, ?_⟩) hHeld ?_ ?_
 rotate_left
 ·rintro w' ⟨s0, s1, s2⟩
  go_simp
  with_reducible rfl
 rotate_left
 ·simp only [Act.put, sQ0, sQ1, sQ2, i64_w]
  rfl
 refine take_ (i := 2) (N := (some 8)) (v := ?_) (a' := ?_) #[tt,tt,tt,ff,ff,ff,ff,ff] rfl rfl (take_ofW HT_.out HW_.out (by kernel_rfl)) (fun _ _ _ h => h) (Or.inl ⟨by rfl, ?_⟩) hHeld ?_ ?_
 rotate_left
 ·rintro w' ⟨s0, s1, s2⟩
  go_simp
  with_reducible rfl
 rotate_left
 ·simp only [Act.put, sQ0, sQ1, sQ2, i64_w]
  rfl
 refine take_ (i := 3) (N := (some 9)) (v := ?_) (a' := ?_) #[tt,tt,tt,tt,ff,ff,ff,ff] rfl rfl (take_ofW HT_.out HW_.out (by kernel_rfl)) (fun _ _ _ h => h) (Or.inl ⟨by rfl, ?_⟩) hHeld ?_ ?_
 rotate_left
 ·rintro w' ⟨s0, s1, s2⟩
  go_simp
  with_reducible rfl
 rotate_left
 ·simp only [Act.put, sQ0, sQ1, sQ2, i64_w]
  rfl
 refine pure_ (i := 4) (N := (some 10)) (v := ?_) (a' := ?_) #[tt,tt,tt,tt,tt,ff,ff,ff] rfl rfl (any_of HT_.out (by kernel_rfl)) (fun _ _ _ h => h) (Or.inl ⟨by rfl, ?_⟩) ?_ ?_
 rotate_left
 ·intro w'
  go_simp
  with_reducible rfl
 rotate_left
 ·simp only [Act.put, sQ0, sQ1, sQ2, i64_w]
  rfl
 refine one_ (i := 5) (N := (some 11)) #[tt,tt,tt,tt,tt,tt,ff,ff] rfl rfl (one_of HT_.out (by kernel_rfl)) (by decide) (fun K hK => ?_)
 obtain ⟨v0, st, w4, hrun, hg, ⟨s1, f1, hm1, hf1⟩, hst⟩ := HM3.out.entry ha_inj lawHK Try.underlying86 (fun u => zeroI u) (by unfold maxLen; have := HZ.out; omega) (x := e.h) hkl
 have HST := Aside0.mk hst
 have HG4 := Aside0.mk hg
 have HF4 := Aside0.mk (blk_grown HF3.out hg (fun q => HNF.out (Option.some.inj q)))
 have HE4 := Aside0.mk (blk_grown HE3.out hg (fun q => HNE.out (Option.some.inj q)))
 have HL4 := Aside0.mk (look_same hm1 hkl (hf1.trans (cV_at cnt e.h)))
 clear hst hg hm1 hf1
 refine value_ (by rfl) rfl (v := .tuple #[v0, goInt st]) (w1 := w4) (by first | (simp [execOp, Act.eval, hrun, Result.andThen]; done) | (go_simp; done)) ?_
 clear hrun
 refine hK.out _ _ ⟨fun i => blk_cell HF4.out i, fun i => blk_cell HE4.out i, HL4.out⟩ (fun hHeld => ?_)
 clear hK K
 refine norm_ (a' := ?_) ?_ ?_
 rotate_left
 ·show Act.put _ (some 11) _ = _
  simp only [Act.put, sQ0, sQ1, sQ2, i64_w]
  rfl
 refine pure_ (i := 6) (N := (some 12)) (v := ?_) (a' := ?_) #[tt,tt,tt,tt,tt,tt,tt,ff] rfl rfl (any_of HT_.out (by kernel_rfl)) (fun _ _ _ h => h) (Or.inl ⟨by rfl, ?_⟩) ?_ ?_
 rotate_left
 ·intro w'
  go_simp
  with_reducible rfl
 rotate_left
 ·simp only [Act.put, sQ0, sQ1, sQ2, i64_w]
  rfl
 refine last_ (i := 7) (N := none) #[tt,tt,tt,tt,tt,tt,tt,tt] rfl rfl (one_of HT_.out (by kernel_rfl)) (by decide) (fun K hK => ?_)
 obtain ⟨w5, hrun, hm5, hg5⟩ := HST.out w4 (.int .i64 (wrap64 ((cnt e.h : Nat) + 1))) rfl
 have HM5 := Aside0.mk hm5
 have HG5 := Aside0.mk (HG4.out.trans hg5)
 have HF5 := Aside0.mk (blk_grown HF4.out hg5 (fun q => HNF.out (Option.some.inj q)))
 have HE5 := Aside0.mk (blk_grown HE4.out hg5 (fun q => HNE.out (Option.some.inj q)))
 clear hm5 hg5
 unfold goInt at hrun
 refine skip_ (by rfl) rfl (w1 := w5) (by first | (simp [execOp, Act.eval, hrun, Result.andThen]; done) | (go_simp; done)) ?_
 clear hrun
 refine hK.out _ _ ?_
 clear hK K
 refine done_ (done_of HT_.out (by kernel_rfl)) ?_
 have hm5 := HM5.out
 rw [HWW.out, cV_inc] at hm5
 have HMM := Aside0.mk hm5
 have hl5 := look_c hm5 hkl w5 rfl
 have hlf5 := blk_lt HF5.out
 have hle5 := blk_lt HE5.out
 have hcf := fun i => blk_cell HF5.out i
 have hce := fun i => blk_cell HE5.out i
 clear hm5 HM5 hHeld HT_ HW_ hlf
 have hv : decide (((inc cnt e.h (e.hn, e.hg) : Nat) : Int) > 1) = decide (cnt e.h + 1 > 1) := by
  have : inc cnt e.h (e.hn, e.hg) = cnt e.h + 1 := by unfold inc; rw [if_pos rfl]
  rw [this]
  by_cases q : cnt e.h + 1 > 1
  ·rw [decide_eq_true q]; exact decide_eq_true (by omega)
  ·rw [decide_eq_false q]; exact decide_eq_false (by omega)
 have HV := Aside0.mk hv
 clear hv
 go_wp2
 go_ret
 exact ⟨by have := HV.out; simpa using congrArg (fun x => Ending.returned (Value.bool x)) this, ⟨_, by split <;> omega, HF5.out, HMM.out⟩, HG3.out.trans HG5.out⟩
def cntN (g : Nat → Ev) : Nat → Ha → Nat
 | 0 => fun _ => 0
 | n + 1 => if (g n).k = 4 then inc (cntN g n) (g n).h else cntN g n
theorem cntN_le (g : Nat → Ev) (n : Nat) (h : Ha) : cntN g n h ≤ n := by
 induction n with
 | zero => exact Nat.le_refl _
 | succ n ih =>
  unfold cntN
  split
  ·unfold inc; split <;> omega
  ·omega
theorem cntN_pos (g : Nat → Ev) (n : Nat) (h : Ha) : 0 < cntN g n h ↔ ∃ j, j < n ∧ (g j).k = 4 ∧ (g j).h = h := by
 induction n with
 | zero => exact ⟨fun q => by simp [cntN] at q, fun ⟨j, q, _⟩ => by omega⟩
 | succ n ih =>
  have up : (∃ j, j < n ∧ (g j).k = 4 ∧ (g j).h = h) → ∃ j, j < n + 1 ∧ (g j).k = 4 ∧ (g j).h = h := fun ⟨j, q⟩ => ⟨j, by omega, q.2⟩
  unfold cntN
  by_cases hk : (g n).k = 4
  ·rw [if_pos hk]
   unfold inc
   by_cases e : h = (g n).h
   ·rw [if_pos e]; exact ⟨fun _ => ⟨n, by omega, hk, e.symm⟩, fun _ => by omega⟩
   ·rw [if_neg e, ih]
    exact ⟨up, fun ⟨j, q1, q2, q3⟩ => ⟨j, by
     rcases Nat.lt_or_ge j n with z | z
     ·exact z
     ·obtain rfl : j = n := by omega
      exact absurd q3.symm e, q2, q3⟩⟩
  ·rw [if_neg hk, ih]
   exact ⟨up, fun ⟨j, q1, q2, q3⟩ => ⟨j, by
    rcases Nat.lt_or_ge j n with z | z
    ·exact z
    ·obtain rfl : j = n := by omega
     exact absurd q2 hk, q2, q3⟩⟩
def twiceF (g : Nat → Ev) (i : Nat) : Bool := (g i).k == 4 && decide (cntN g i (g i).h + 1 > 1)
theorem twice_eq (g : Nat → Ev) (n : Nat) : firstN (twiceF g) n = firstN (twiceP g) n := firstN_congr fun i hi => by
 unfold twiceF twiceP
 congr 1
 rw [Bool.eq_iff_iff, decide_eq_true_eq, anyN_true]
 have := cntN_pos g i (g i).h
 constructor
 ·intro q
  obtain ⟨j, h1, h2, h3⟩ := this.1 (by omega)
  exact ⟨j, h1, by simp [h2, h3]⟩
 ·rintro ⟨j, h1, h2⟩
  simp only [Bool.and_eq_true, beq_iff_eq, decide_eq_true_eq] at h2
  have := this.2 ⟨j, h1, h2.1, h2.2⟩
  omega
structure Jt (w W : World) (B b n m1 m2 fb mf k : Nat) (s : Story) (vl vv vc : Value) (cnt : Ha → Nat) : Prop where
 st : StIs W B b n s vl vv vc m1 m2
 ct : ∃ z, z ≤ k ∧ Ct W fb mf z cnt
 below : Below w.heap.size w W
 hm : w.heap.size ≤ mf
 h1 : mf ≠ m1
 h2 : mf ≠ m2
section
variable {w W W1 : World} {B b n m1 m2 fb mf k : Nat} {s : Story} {vl vv vc : Value} {cnt cnt' : Ha → Nat}
theorem Ct.below {z : Nat} (h : Ct W fb mf z cnt) (hb : Below W.heap.size W W1) : Ct W1 fb mf z cnt := ⟨blk_below h.fb_ hb, h.mf_.move (hb.block _ h.mf_.lt)⟩
theorem Jt.step (h : Jt w W B b n m1 m2 fb mf k s vl vv vc cnt) (hb : Below W.heap.size W W1) : Jt w W1 B b n m1 m2 fb mf k s vl vv vc cnt := by
 obtain ⟨z, hz, hc⟩ := h.ct
 exact ⟨h.st.below hb, ⟨z, hz, hc.below hb⟩, below_step h.below hb, h.hm, h.h1, h.h2⟩
theorem Jt.up (h : Jt w W B b n m1 m2 fb mf k s vl vv vc cnt) : Jt w W B b n m1 m2 fb mf (k + 1) s vl vv vc cnt := by
 obtain ⟨z, hz, hc⟩ := h.ct
 exact ⟨h.st, ⟨z, by omega, hc⟩, h.below, h.hm, h.h1, h.h2⟩
theorem StIs.map_apart (h : StIs W B b n s vl vv vc m1 m2) {es : Array MapEntry} {cl : Nat} (q : W.heap[mf]? = some (.map es cl)) (hg : W.grownBy W1 (some mf)) (h1 : mf ≠ m1) (h2 : mf ≠ m2) : StIs W1 B b n s vl vv vc m1 m2 := by
 obtain ⟨z1, hz1, hm1⟩ := h.ma
 obtain ⟨z2, hz2, hm2⟩ := h.mo
 have row : ∀ {α : Type} {T k : Nat} {A : α → Array Value} {v : Value} {l : List α}, RowIs W B T k A v l → RowIs W1 B T k A v l := by
  intro α T k A v l r
  refine r.kept hg ?_
  cases hv : v.ownBlock with
  | none => exact .inl rfl
  | some g => exact .inr (fun z => by obtain ⟨cur, hc⟩ := r.own hv; exact map_ne hc q (Option.some.inj z))
 exact ⟨blk_grown h.blk hg (fun z => map_ne h.blk q (Option.some.inj z)), row h.rl, row h.rv, row h.rc, ⟨z1, hz1, hm1.move (hg.block m1 hm1.lt (fun z => h1 (Option.some.inj z).symm))⟩, ⟨z2, hz2, hm2.move (hg.block m2 hm2.lt (fun z => h2 (Option.some.inj z).symm))⟩, h.hb, h.h1, h.h2, h.m12⟩
end
theorem twice_clo {l : List Ev} (hn : l.length ≤ 1000000) (hwf : ∀ e ∈ l, wfE e) {w W : World} {B b m1 m2 fb mf : Nat} {vl vv vc : Value} (i : Nat) (e : Ev) (he : (storyN (gOf l) l.length).l[i]? = some e) (hk : e.k = 4) (h : Jt w W B b l.length m1 m2 fb mf i (storyN (gOf l) l.length) vl vv vc (cntN (gOf l) i)) :
  Calls Try.prog 49 (#[.int .i64 (i : Int), .agg (evA e)] ++ #[.pointer (some ⟨fb, 0, none⟩)]) W fun r W' => r = .returned (.bool (twiceF (gOf l) i)) ∧ Jt w W' B b l.length m1 m2 fb mf (i + 1) (storyN (gOf l) l.length) vl vv vc (cntN (gOf l) (i + 1)) := by
 obtain ⟨hi, heq⟩ := get_l hn he
 have hwe : wfE e := by rw [heq]; exact wf_g hwf hi
 have hp : twiceF (gOf l) i = decide (cntN (gOf l) i e.h + 1 > 1) := by unfold twiceF; rw [← heq, beq_iff_eq.2 hk, Bool.true_and]
 have hc1 : cntN (gOf l) (i + 1) = inc (cntN (gOf l) i) e.h := by rw [cntN, ← heq, if_pos hk]
 have ha : (#[.int .i64 (i : Int), .agg (evA e)] ++ #[.pointer (some ⟨fb, 0, none⟩)] : Array Value) = #[.int .i64 (i : Int), .agg (evA e), .pointer (some ⟨fb, 0, none⟩)] := by simp
 obtain ⟨z, hz, hct⟩ := h.ct
 have hcl := twice_clo1 i e W hct (keyH _ _ hwe.2.1 hwe.2.2.1) (by omega) (by have := cntN_le (gOf l) i e.h; omega)
 rw [ha, hp, hc1]
 generalize storyN (gOf l) l.length = s at h ⊢
 generalize cntN (gOf l) i = cnt at hcl h hct ⊢
 refine hcl.mono ?_
 rintro r W' ⟨hr, ⟨z', hz', hct'⟩, hg⟩
 obtain ⟨_, _, q⟩ := hct.mf_.block
 exact ⟨hr, h.st.map_apart q hg h.h1 h.h2, ⟨z', by omega, hct'⟩, h.below.grown hg h.below.size (fun j hj => by cases hj; exact h.hm), h.hm, h.h1, h.h2⟩
theorem twice_first {l : List Ev} (hn : l.length ≤ 1000000) (hwf : ∀ e ∈ l, wfE e) {w W : World} {B b m1 m2 fb mf : Nat} {vl vv vc : Value} (hJ : Jt w W B b l.length m1 m2 fb mf 0 (storyN (gOf l) l.length) vl vv vc (cntN (gOf l) 0)) :
  Calls Try.prog 48 #[.pointer (some ⟨b, 0, none⟩), .int .i64 4, .func (.func 49) #[] #[.pointer (some ⟨fb, 0, none⟩)]] W (FirstPost (twiceF (gOf l)) l.length (fun k W' => Jt w W' B b l.length m1 m2 fb mf k (storyN (gOf l) l.length) vl vv vc (cntN (gOf l) k))) := by
 have INV := inv_all (gOf l) l.length (by unfold noEnd; omega)
 have h := Au.first_twice #[.pointer (some ⟨fb, 0, none⟩)] 4 (twiceF (gOf l)) (fun k W' => Jt w W' B b l.length m1 m2 fb mf k (storyN (gOf l) l.length) vl vv vc (cntN (gOf l) k)) (by rw [INV.len]; exact hn) (fun _ _ h => h.st) (fun _ _ _ h hb => h.step hb)
   (fun i e W he hk h => ⟨by rw [show cntN (gOf l) (i + 1) = cntN (gOf l) i by rw [cntN, ← (get_l hn he).2, if_neg hk]]; exact h.up, by unfold twiceF; rw [← (get_l hn he).2, beq_eq_false_iff_ne.2 hk]; rfl⟩)
   (fun i e W he hk h => twice_clo hn hwf i e he hk h) W hJ
 rw [INV.len] at h
 exact h
set_option maxHeartbeats 4000000 in
set_option maxRecDepth 100000 in
theorem twice_top (A1 : Option Addr) (c1 : Nat) (l : List Ev) (hn : l.length ≤ 1000000) (w : World) (hin : ∀ (i : Nat) e, l[i]? = some e → EvAt w A1 i e) (hwf : ∀ e ∈ l, wfE e) :
  Calls Try.prog 17 #[.slice A1 l.length c1] w fun r w' => r = .returned (.int .i64 (twiceI (gOf l) l.length)) ∧ Below w.heap.size w w' := by
 have hmf : ∀ (fn : Fn) (first cap : Array Value) (w : World), (Instr.makeFunc fn first cap).run Try.prog w = .ok (.func fn first cap) w := fun _ _ _ _ => rfl
 have hmm := @run_makeMap Try.prog
 have HB0 := Aside0.mk (below_alloc (below_alloc (Below.refl w.heap.size w) (.map #[] 0)) (.cells #[.map (some w.heap.size)] 86))
 have HC0 : Aside0 (Ct ((w.alloc (.map #[] 0)).alloc (.cells #[.map (some w.heap.size)] 86)) (w.heap.size + 1) w.heap.size 0 (fun _ => 0)) := ⟨two_alloc _ _ _, (MapIs.made (c := haV) w Try.prog 34).move (by rw [Below.heap_alloc _ _ _ (by simp)])⟩
 have CR := Aside0.mk (read_any A1 c1 l hn ((w.alloc (.map #[] 0)).alloc (.cells #[.map (some w.heap.size)] 86)) (fun i e he => (hin i e he).below HB0.out) hwf)
 have CF : Aside0 (∀ W B b m1 m2 fb mf vl vv vc, Jt w W B b l.length m1 m2 fb mf 0 (storyN (gOf l) l.length) vl vv vc (cntN (gOf l) 0) → Calls Try.prog 48 #[.pointer (some ⟨b, 0, none⟩), .int .i64 4, .func (.func 49) #[] #[.pointer (some ⟨fb, 0, none⟩)]] W (FirstPost (twiceF (gOf l)) l.length (fun k W' => Jt w W' B b l.length m1 m2 fb mf k (storyN (gOf l) l.length) vl vv vc (cntN (gOf l) k)))) := ⟨fun W B b m1 m2 fb mf vl vv vc hJ => twice_first hn hwf hJ⟩
 have HE := Aside0.mk (show oI (firstN (twiceF (gOf l)) l.length) = twiceI (gOf l) l.length by unfold twiceI; rw [twice_eq])
 clear hin hwf
 go_enter Try.func17, Try.ntmps17
 go_wp2_with (first
  | (go_at_call 47; (with_reducible refine CR.out.mono ?_); rintro r w2 ⟨b, m1, m2, vl, vv, vc, rfl, hS, hb⟩; have HJ := Aside0.mk (show Jt w w2 _ b l.length m1 m2 (w.heap.size + 1) w.heap.size 0 _ vl vv vc (cntN (gOf l) 0) from ⟨hS, ⟨0, Nat.le_refl _, HC0.out.below hb⟩, below_step HB0.out hb, Nat.le_refl _, by have := hS.h1; simp at this; omega, by have := hS.h2; simp at this; omega⟩); clear hS hb)
  | (go_at_call 48; (with_reducible refine (CF.out _ _ b m1 m2 (w.heap.size + 1) w.heap.size vl vv vc HJ.out).mono ?_); rintro r w3 ⟨rfl, k3, hJ3⟩; have HB3 := Aside0.mk hJ3.below; clear hJ3))
 go_ret
 exact ⟨by rw [← HE.out]; rfl, HB3.out⟩
def wfB (e : Ev) : Bool := (Lit.int .i64 e.wk).wf && ((Lit.int .i64 e.hn).wf && ((Lit.int .i64 e.hg).wf && ((Lit.int .i64 e.nn).wf && (Lit.int .i64 e.ng).wf)))
theorem wfE_of {e : Ev} (h : wfB e = true) : wfE e := by
 unfold wfB at h
 simp only [Bool.and_eq_true] at h
 exact h
end Go.Proofs.Ythniclbmpeklmaa.Au
end
section
set_option maxHeartbeats 4000000
set_option maxRecDepth 100000
namespace Go.Proofs.Ythniclbmpeklmaa.Au
open Go.RowKit Go.Maps Go.Proofs.YthniclbmpeklmaaW.PrintWords Go.Proofs.YthniclbmpeklmaaW.PrintLast Go.Proofs.YthniclbmpeklmaaW.PrintMore Go.Proofs.Ythniclbmpeklmaa.Mp
set_option linter.unusedVariables false
set_option linter.unusedSimpArgs false
attribute [local go_sem high] Ev.eqHa
attribute [local go_sem] max2_int max_two
def bh1 (x : Life) (c d : Cl) : Bool := d.e.wk == x.wk && (decide (d.beg > c.beg) && decide (d.beg < x.made))
def maker (cs : List Cl) (x : Life) (c : Cl) : Bool := c.e.wk == x.wk && (decide (c.beg < x.made) && !(cs.any (bh1 x c)))
def counts (cs : List Cl) (x : Life) (c : Cl) : Bool := maker cs x c || (c.e.op == 4 && (c.e.hn == x.hn && c.e.hg == x.hg))
def bh (cs : List Cl) (x : Life) : List Cl → Int → Bool → Int × Bool
 | [], at_, f => (at_, f)
 | c :: r, at_, f => if counts cs x c = false then bh cs x r at_ f else if c.en < 0 then (0, false) else bh cs x r (if at_ < c.en then c.en else at_) (f || maker cs x c)
theorem bh1_wk {xb cb : Nat} (x : Life) (c d : Cl) (w : World) (hxb : w.heap[xb]? = some (.cells (lfA x) 99 (0, 0))) (hcb : w.heap[cb]? = some (.cells (clA c) 103 (0, 0))) (h1 : ¬ d.e.wk = x.wk) :
  Calls Try.prog 88 #[.agg (clA d), .pointer (some ⟨xb, 0, none⟩), .pointer (some ⟨cb, 0, none⟩)] w fun r w' => r = .returned (.bool false) ∧ Below w.heap.size w w' := by
 have hu99 := Try.underlying99
 have hu103 := Try.underlying103
 have hu54 := Try.underlying54
 have g1 : (d.e.wk == x.wk) = false := beq_eq_false_iff_ne.2 h1
 have hlc := blk_lt hcb
 have hlb := blk_lt hxb
 have hcc := fun i => blk_cell hcb i
 have hct := fun i => blk_cell hxb i
 clear hcb hxb h1
 go_enter Try.func88, Try.ntmps88
 go_wp2
 go_ret
 exact ⟨rfl, by repeat (first | exact Below.refl _ _ | apply below_alloc | apply pw_below_drewN)⟩
theorem bh1_gt {xb cb : Nat} (x : Life) (c d : Cl) (w : World) (hxb : w.heap[xb]? = some (.cells (lfA x) 99 (0, 0))) (hcb : w.heap[cb]? = some (.cells (clA c) 103 (0, 0))) (h1 : d.e.wk = x.wk) (h2 : ¬ d.beg > c.beg) :
  Calls Try.prog 88 #[.agg (clA d), .pointer (some ⟨xb, 0, none⟩), .pointer (some ⟨cb, 0, none⟩)] w fun r w' => r = .returned (.bool false) ∧ Below w.heap.size w w' := by
 have hu99 := Try.underlying99
 have hu103 := Try.underlying103
 have hu54 := Try.underlying54
 have g1 : (d.e.wk == x.wk) = true := beq_iff_eq.2 h1
 have g2 : decide (d.beg > c.beg) = false := decide_eq_false h2
 have hlc := blk_lt hcb
 have hlb := blk_lt hxb
 have hcc := fun i => blk_cell hcb i
 have hct := fun i => blk_cell hxb i
 clear hcb hxb h1 h2
 go_enter Try.func88, Try.ntmps88
 go_wp2
 go_ret
 exact ⟨rfl, by repeat (first | exact Below.refl _ _ | apply below_alloc | apply pw_below_drewN)⟩
theorem bh1_lt {xb cb : Nat} (x : Life) (c d : Cl) (w : World) (hxb : w.heap[xb]? = some (.cells (lfA x) 99 (0, 0))) (hcb : w.heap[cb]? = some (.cells (clA c) 103 (0, 0))) (h1 : d.e.wk = x.wk) (h2 : d.beg > c.beg) (h3 : ¬ d.beg < x.made) :
  Calls Try.prog 88 #[.agg (clA d), .pointer (some ⟨xb, 0, none⟩), .pointer (some ⟨cb, 0, none⟩)] w fun r w' => r = .returned (.bool false) ∧ Below w.heap.size w w' := by
 have hu99 := Try.underlying99
 have hu103 := Try.underlying103
 have hu54 := Try.underlying54
 have g1 : (d.e.wk == x.wk) = true := beq_iff_eq.2 h1
 have g2 : decide (d.beg > c.beg) = true := decide_eq_true h2
 have g3 : decide (d.beg < x.made) = false := decide_eq_false h3
 have hlc := blk_lt hcb
 have hlb := blk_lt hxb
 have hcc := fun i => blk_cell hcb i
 have hct := fun i => blk_cell hxb i
 clear hcb hxb h1 h2 h3
 go_enter Try.func88, Try.ntmps88
 go_wp2
 go_ret
 exact ⟨rfl, by repeat (first | exact Below.refl _ _ | apply below_alloc | apply pw_below_drewN)⟩
theorem bh1_yes {xb cb : Nat} (x : Life) (c d : Cl) (w : World) (hxb : w.heap[xb]? = some (.cells (lfA x) 99 (0, 0))) (hcb : w.heap[cb]? = some (.cells (clA c) 103 (0, 0))) (h1 : d.e.wk = x.wk) (h2 : d.beg > c.beg) (h3 : d.beg < x.made) :
  Calls Try.prog 88 #[.agg (clA d), .pointer (some ⟨xb, 0, none⟩), .pointer (some ⟨cb, 0, none⟩)] w fun r w' => r = .returned (.bool true) ∧ Below w.heap.size w w' := by
 have hu99 := Try.underlying99
 have hu103 := Try.underlying103
 have hu54 := Try.underlying54
 have g1 : (d.e.wk == x.wk) = true := beq_iff_eq.2 h1
 have g2 : decide (d.beg > c.beg) = true := decide_eq_true h2
 have g3 : decide (d.beg < x.made) = true := decide_eq_true h3
 have hlc := blk_lt hcb
 have hlb := blk_lt hxb
 have hcc := fun i => blk_cell hcb i
 have hct := fun i => blk_cell hxb i
 clear hcb hxb h1 h2 h3
 go_enter Try.func88, Try.ntmps88
 go_wp2
 go_ret
 exact ⟨rfl, by repeat (first | exact Below.refl _ _ | apply below_alloc | apply pw_below_drewN)⟩
theorem bh1_any {xb cb : Nat} (x : Life) (c d : Cl) (w : World) (hxb : w.heap[xb]? = some (.cells (lfA x) 99 (0, 0))) (hcb : w.heap[cb]? = some (.cells (clA c) 103 (0, 0))) :
  Calls Try.prog 88 #[.agg (clA d), .pointer (some ⟨xb, 0, none⟩), .pointer (some ⟨cb, 0, none⟩)] w fun r w' => r = .returned (.bool (bh1 x c d)) ∧ Below w.heap.size w w' := by
 unfold bh1
 by_cases h1 : d.e.wk = x.wk
 ·rw [beq_iff_eq.2 h1]
  by_cases h2 : d.beg > c.beg
  ·rw [decide_eq_true h2]
   by_cases h3 : d.beg < x.made
   ·rw [decide_eq_true h3]; exact bh1_yes x c d w hxb hcb h1 h2 h3
   ·rw [decide_eq_false h3]; exact bh1_lt x c d w hxb hcb h1 h2 h3
  ·rw [decide_eq_false h2]; exact bh1_gt x c d w hxb hcb h1 h2
 ·rw [beq_eq_false_iff_ne.2 h1]; exact bh1_wk x c d w hxb hcb h1
theorem some_behind {B : Nat} {v : Value} {l : List Cl} (cap : Array Value) (p : Cl → Bool) (J : World → Prop) (w : World) (hr : RowIs w B 103 15 clA v l) (hl : l.length ≤ 1000000) (h0 : J w) (hJ : ∀ W W', J W → Below W.heap.size W W' → J W')
  (hcall : ∀ x W, x ∈ l → J W → Calls Try.prog 88 (#[.agg (clA x)] ++ cap) W fun r W' => r = .returned (.bool (p x)) ∧ Below W.heap.size W W') :
  Calls Try.prog 54 #[v, .func (.func 88) #[] cap] w fun r w' => r = .returned (.bool (l.any p)) ∧ Below w.heap.size w w' := by
 have hu54 := Try.underlying54
 have hu34 := Try.underlying34
 have huT := Try.underlying103
 obtain ⟨A0, c0, rfl, hc0⟩ := hr.form
 have HR := Aside0.mk hr
 have HL := Aside0.mk hl
 have HJ := Aside0.mk hJ
 have HC := Aside0.mk hcall
 have H0 := Aside0.mk h0
 clear hr hl hJ hcall h0 hc0
 go_enter Try.func54, Try.ntmps54
 go_wp2
 go_loopw [9] (fun i wr => ∃ k : Nat, k ≤ l.length ∧ i = .int .i64 k ∧ Aside0 (J wr ∧ Below w.heap.size w wr ∧ (l.take k).any p = false)) (fun i _ => l.length - (intOf i).toNat)
 case atStart => exact ⟨0, by omega, rfl, ⟨H0.out, Below.refl _ _, rfl⟩⟩
 case round =>
  clear H0
  obtain ⟨k, hk, rfl, HI⟩ := hrel
  rcases Nat.lt_or_ge k l.length with hlt | hge
  ·have p0 : (0 : Int) ≤ (k : Int) := by omega
   have q0 : (k : Int) < (l.length : Int) := by omega
   obtain ⟨x, hx⟩ : ∃ x, l[k]? = some x := ⟨_, List.getElem?_eq_getElem hlt⟩
   obtain ⟨g, cp, hv, hcp, hgl, hcell⟩ := (HR.out.below HI.out.2.1).at_ (fun _ => rfl) hx
   injection hv with hv1 hv2 hv3
   subst hv1
   have HM := Aside0.mk (get_mem hx)
   have HT := Aside0.mk (show (l.take (k + 1)).any p = ((l.take k).any p || p x) by
    obtain ⟨h1, h2⟩ := List.getElem?_eq_some_iff.1 hx
    rw [List.take_succ_eq_append_getElem h1, List.any_append, h2]; simp)
   have hnn : wrap64 ((k : Int) + 1) = ((k + 1 : Nat) : Int) := by have := HL.out; unfold wrap64; omega
   have c0 := hcell 0 (by decide)
   have c1 := hcell 1 (by decide)
   have c2 := hcell 2 (by decide)
   have c3 := hcell 3 (by decide)
   have c4 := hcell 4 (by decide)
   have c5 := hcell 5 (by decide)
   have c6 := hcell 6 (by decide)
   have c7 := hcell 7 (by decide)
   have c8 := hcell 8 (by decide)
   have c9 := hcell 9 (by decide)
   have c10 := hcell 10 (by decide)
   have c11 := hcell 11 (by decide)
   have c12 := hcell 12 (by decide)
   have c13 := hcell 13 (by decide)
   have c14 := hcell 14 (by decide)
   rw [Nat.add_zero] at c0
   replace q0 := eq_true q0
   replace p0 := eq_true p0
   clear hcell hx hv2 hv3
   have HCC : Aside0 (∀ W, J W → Calls Try.prog 88 (#[.agg (clA x)] ++ cap) W fun r W' => r = .returned (.bool (p x)) ∧ Below W.heap.size W W') := ⟨fun W hW => HC.out x W HM.out hW⟩
   have HJ1 : Aside0 (J (wr.alloc (.cells (clA x) 103))) := ⟨HJ.out _ _ HI.out.1 (below_alloc (Below.refl _ _) _)⟩
   cases hp : p x with
   | true =>
    rw [hp] at HCC
    have HE := Aside0.mk (show l.any p = true by rw [List.any_eq_true]; exact ⟨x, HM.out, hp⟩)
    clear hp
    go_wp2_with (go_at_call 88; (with_reducible refine (HCC.out _ HJ1.out).mono ?_); rintro r w2 ⟨rfl, hb⟩; have HB2 := Aside0.mk (below_step (below_alloc HI.out.2.1 _) hb); clear hb)
    go_ret
    exact ⟨by rw [HE.out]; rfl, HB2.out⟩
   | false =>
    rw [hp] at HCC
    rw [hp] at HT
    clear hp
    go_wp2_with (go_at_call 88; (with_reducible refine (HCC.out _ HJ1.out).mono ?_); rintro r w2 ⟨rfl, hb⟩; have HB2 := Aside0.mk (below_step (below_alloc HI.out.2.1 _) hb); have HJ2 := Aside0.mk (HJ.out _ _ HJ1.out hb); clear hb)
    go_roundw
    case rel => exact ⟨k + 1, by omega, by first | rw [hnn] | simp, ⟨HJ2.out, HB2.out, by rw [HT.out, HI.out.2.2]; rfl⟩⟩
    case measure => first | (rw [hnn]; simp [intOf]; omega) | (simp [intOf]; omega)
  ·have q0 : ((k : Int) < (l.length : Int)) = False := eq_false (by omega)
   have HE := Aside0.mk (show l.any p = false by rw [← HI.out.2.2, List.take_of_length_le (by omega)])
   clear hk hge
   go_wp2
   go_ret
   exact ⟨by rw [HE.out]; rfl, HI.out.2.1⟩
theorem behind_any {B b n m1 m2 : Nat} {s : Story} {vl vv vc : Value} (x : Life) (w : World) (hB : StIs w B b n s vl vv vc m1 m2) (hl : s.calls.length ≤ 1000000) :
  Calls Try.prog 61 #[.pointer (some ⟨b, 0, none⟩), .agg (lfA x)] w fun r w' => r = .returned (.tuple #[.int .i64 (bh s.calls x s.calls (-1) false).1, .bool (bh s.calls x s.calls (-1) false).2]) ∧ Below w.heap.size w w' := by
 have hu97 := Try.underlying97
 have hu99 := Try.underlying99
 have hu103 := Try.underlying103
 have hu54 := Try.underlying54
 have hu34 := Try.underlying34
 have hmf : ∀ (fn : Fn) (first cap : Array Value) (w : World), (Instr.makeFunc fn first cap).run Try.prog w = .ok (.func fn first cap) w := fun _ _ _ _ => rfl
 obtain ⟨A0, c0, rfl, hc0⟩ := hB.rc.form
 have HL := Aside0.mk hl
 have HI0 := Aside0.mk (show StIs (w.alloc (.cells (lfA x) 99)) B b n s vl vv (.slice A0 s.calls.length c0) m1 m2 ∧ (w.alloc (.cells (lfA x) 99)).heap[w.heap.size]? = some (.cells (lfA x) 99 (0, 0)) ∧ Below w.heap.size w (w.alloc (.cells (lfA x) 99)) from ⟨hB.alloc _, blk_new _ _, below_alloc (Below.refl _ _) _⟩)
 obtain ⟨R, hR⟩ : ∃ R, bh s.calls x s.calls (-1) false = R := ⟨_, rfl⟩
 have HR0 : Aside0 (bh s.calls x (s.calls.drop 0) (-1) false = R) := ⟨hR⟩
 rw [hR]
 clear hR
 have hlt := hB.lt
 have hc := fun i => hB.cell i
 clear hB hl hc0
 go_enter Try.func61, Try.ntmps61
 go_wp2
 go_loopw [16, 6, 7] (fun i va vf wr => ∃ (k : Nat) (a : Int) (f : Bool), k ≤ s.calls.length ∧ i = .int .i64 k ∧ va = .int .i64 a ∧ vf = .bool f ∧ Aside0 (bh s.calls x (s.calls.drop k) a f = R) ∧ Aside0 (StIs wr B b n s vl vv (.slice A0 s.calls.length c0) m1 m2 ∧ wr.heap[w.heap.size]? = some (.cells (lfA x) 99 (0, 0)) ∧ Below w.heap.size w wr)) (fun i _ _ _ => s.calls.length - (intOf i).toNat)
 case atStart => exact ⟨0, -1, false, by omega, rfl, rfl, rfl, HR0, HI0⟩
 case round =>
  clear HR0 HI0 hc hlt
  obtain ⟨k, a, f, hk, rfl, rfl, rfl, HR, HI⟩ := hrel
  rcases Nat.lt_or_ge k s.calls.length with hlt | hge
  ·have p0 : (0 : Int) ≤ (k : Int) := by omega
   have q0 : (k : Int) < (s.calls.length : Int) := by omega
   obtain ⟨c, hx⟩ : ∃ c, s.calls[k]? = some c := ⟨_, List.getElem?_eq_getElem hlt⟩
   obtain ⟨g, cp, hv, hcp, hgl, hcell⟩ := HI.out.1.rc.at_ (fun _ => rfl) hx
   injection hv with hv1 hv2 hv3
   subst hv1
   have hdr : s.calls.drop k = c :: s.calls.drop (k + 1) := by obtain ⟨h1, h2⟩ := List.getElem?_eq_some_iff.1 hx; rw [List.drop_eq_getElem_cons h1, h2]
   replace HR : Aside0 ((if counts s.calls x c = false then bh s.calls x (s.calls.drop (k + 1)) a f else if c.en < 0 then (0, false) else bh s.calls x (s.calls.drop (k + 1)) (if a < c.en then c.en else a) (f || maker s.calls x c)) = R) := ⟨by have := HR.out; rw [hdr, bh] at this; exact this⟩
   have hnn : wrap64 ((k : Int) + 1) = ((k + 1 : Nat) : Int) := by have := HL.out; unfold wrap64; omega
   have d0 := hcell 0 (by decide)
   have d1 := hcell 1 (by decide)
   have d2 := hcell 2 (by decide)
   have d3 := hcell 3 (by decide)
   have d4 := hcell 4 (by decide)
   have d5 := hcell 5 (by decide)
   have d6 := hcell 6 (by decide)
   have d7 := hcell 7 (by decide)
   have d8 := hcell 8 (by decide)
   have d9 := hcell 9 (by decide)
   have d10 := hcell 10 (by decide)
   have d11 := hcell 11 (by decide)
   have d12 := hcell 12 (by decide)
   have d13 := hcell 13 (by decide)
   have d14 := hcell 14 (by decide)
   rw [Nat.add_zero] at d0
   replace q0 := eq_true q0
   replace p0 := eq_true p0
   clear hcell hx hv2 hv3 hdr
   have HC := Aside0.mk (show StIs (wr.alloc (.cells (clA c) 103)) B b n s vl vv (.slice (some ⟨g, 0, none⟩) s.calls.length c0) m1 m2 ∧ (wr.alloc (.cells (clA c) 103)).heap[w.heap.size]? = some (.cells (lfA x) 99 (0, 0)) ∧ Below w.heap.size w (wr.alloc (.cells (clA c) 103)) ∧ (wr.alloc (.cells (clA c) 103)).heap[wr.heap.size]? = some (.cells (clA c) 103 (0, 0)) from ⟨HI.out.1.alloc _, blk_alloc HI.out.2.1 _, below_alloc HI.out.2.2 _, blk_new _ _⟩)
   have CS : Aside0 (∀ W, (StIs W B b n s vl vv (.slice (some ⟨g, 0, none⟩) s.calls.length c0) m1 m2 ∧ W.heap[w.heap.size]? = some (.cells (lfA x) 99 (0, 0)) ∧ Below w.heap.size w W ∧ W.heap[wr.heap.size]? = some (.cells (clA c) 103 (0, 0))) → Calls Try.prog 54 #[.slice (some ⟨g, 0, none⟩) s.calls.length c0, .func (.func 88) #[] #[.pointer (some ⟨w.heap.size, 0, none⟩), .pointer (some ⟨wr.heap.size, 0, none⟩)]] W fun r w' => r = .returned (.bool (s.calls.any (bh1 x c))) ∧ Below W.heap.size W w') := ⟨fun W h => some_behind _ (bh1 x c) (fun W => W.heap[w.heap.size]? = some (.cells (lfA x) 99 (0, 0)) ∧ W.heap[wr.heap.size]? = some (.cells (clA c) 103 (0, 0))) W h.1.rc HL.out ⟨h.2.1, h.2.2.2⟩ (fun _ _ h hb => ⟨blk_below h.1 hb, blk_below h.2 hb⟩) (fun d W' _ h => bh1_any x c d W' h.1 h.2)⟩
   have hls := HC.out.1.lt
   have hcs := fun i => HC.out.1.cell i
   have hlx := blk_lt HC.out.2.1
   have hcx := fun i => blk_cell HC.out.2.1 i
   clear HI
   go_upto_region 5 with (fail)
   go_cut [10] from 20 to 41 (fun v wc => v = .bool (maker s.calls x c) ∧ Aside0 (StIs wc B b n s vl vv (.slice (some ⟨g, 0, none⟩) s.calls.length c0) m1 m2 ∧ wc.heap[w.heap.size]? = some (.cells (lfA x) 99 (0, 0)) ∧ Below w.heap.size w wc ∧ wc.heap[wr.heap.size]? = some (.cells (clA c) 103 (0, 0))))
   case first =>
    by_cases h1 : c.e.wk = x.wk
    ·have g1 : (c.e.wk == x.wk) = true := beq_iff_eq.2 h1
     by_cases h2 : c.beg < x.made
     ·have g2 : decide (c.beg < x.made) = true := decide_eq_true h2
      clear h1 h2
      cases hv : s.calls.any (bh1 x c) with
      | true =>
       rw [hv] at CS
       have HV := Aside0.mk hv
       clear hv
       go_wp2_with (first | (go_at_call 54; (with_reducible refine (CS.out _ HC.out).mono ?_); rintro r w2 ⟨rfl, hb⟩; have HC2 := Aside0.mk (show StIs w2 B b n s vl vv (.slice (some ⟨g, 0, none⟩) s.calls.length c0) m1 m2 ∧ w2.heap[w.heap.size]? = some (.cells (lfA x) 99 (0, 0)) ∧ Below w.heap.size w w2 ∧ w2.heap[wr.heap.size]? = some (.cells (clA c) 103 (0, 0)) from ⟨HC.out.1.below hb, blk_below HC.out.2.1 hb, below_step HC.out.2.2.1 hb, blk_below HC.out.2.2.2 hb⟩); clear hb))
       go_meet
       case rel => exact ⟨by unfold maker; rw [g1, g2, HV.out]; rfl, HC2⟩
      | false =>
       rw [hv] at CS
       have HV := Aside0.mk hv
       clear hv
       go_wp2_with (first | (go_at_call 54; (with_reducible refine (CS.out _ HC.out).mono ?_); rintro r w2 ⟨rfl, hb⟩; have HC2 := Aside0.mk (show StIs w2 B b n s vl vv (.slice (some ⟨g, 0, none⟩) s.calls.length c0) m1 m2 ∧ w2.heap[w.heap.size]? = some (.cells (lfA x) 99 (0, 0)) ∧ Below w.heap.size w w2 ∧ w2.heap[wr.heap.size]? = some (.cells (clA c) 103 (0, 0)) from ⟨HC.out.1.below hb, blk_below HC.out.2.1 hb, below_step HC.out.2.2.1 hb, blk_below HC.out.2.2.2 hb⟩); clear hb))
       go_meet
       case rel => exact ⟨by unfold maker; rw [g1, g2, HV.out]; rfl, HC2⟩
     ·have g2 : decide (c.beg < x.made) = false := decide_eq_false h2
      clear h1 h2
      go_wp2
      go_meet
      case rel => exact ⟨by unfold maker; rw [g1, g2]; rfl, HC⟩
    ·have g1 : (c.e.wk == x.wk) = false := beq_eq_false_iff_ne.2 h1
     clear h1
     go_wp2
     go_meet
     case rel => exact ⟨by unfold maker; rw [g1]; rfl, HC⟩
   case rest =>
    clear HC CS hls hcs hlx hcx d0 d1 d2 d3 d4 d5 d6 d7 d8 d9 d10 d11 d12 d13 d14
    obtain ⟨rfl, HD⟩ := hcut
    have hlx := blk_lt HD.out.2.1
    have hlc := blk_lt HD.out.2.2.2
    have hcx := fun i => blk_cell HD.out.2.1 i
    have hcc := fun i => blk_cell HD.out.2.2.2 i
    cases hm : maker s.calls x c with
    | true =>
     replace HR : Aside0 ((if c.en < 0 then (0, false) else bh s.calls x (s.calls.drop (k + 1)) (if a < c.en then c.en else a) (f || true)) = R) := ⟨by have := HR.out; rw [hm, if_neg (by unfold counts; rw [hm]; simp)] at this; exact this⟩
     clear hm
     by_cases hn : c.en < 0
     ·have g9 : decide (c.en < 0) = true := decide_eq_true hn
      have HE := Aside0.mk (show R = (0, false) by have := HR.out; rw [if_pos hn] at this; exact this.symm)
      clear hn
      go_wp2
      exact bodyPost_ret (v := .tuple #[.int .i64 0, .bool false]) (by simp [results, Try.results61]) rfl ⟨by rw [HE.out], HD.out.2.2.1⟩
     ·have g9 : decide (c.en < 0) = false := decide_eq_false hn
      obtain ⟨v, hv⟩ : ∃ v : Int, (if a < c.en then c.en else a) = v := ⟨_, rfl⟩
      have HS := Aside0.mk (show bh s.calls x (s.calls.drop (k + 1)) v (f || true) = R by have := HR.out; rw [if_neg hn, hv] at this; exact this)
      clear hn
      cases f with
      | true =>
       go_wp2
       go_roundw
       case rel => exact ⟨k + 1, v, true, by omega, by first | rw [hnn] | simp, rfl, by first | rfl | simp [*], ⟨HS.out⟩, ⟨HD.out.1, HD.out.2.1, HD.out.2.2.1⟩⟩
       case measure => first | (rw [hnn]; simp [intOf]; omega) | (simp [intOf]; omega)
      | false =>
       go_wp2
       go_roundw
       case rel => exact ⟨k + 1, v, true, by omega, by first | rw [hnn] | simp, rfl, by first | rfl | simp [*], ⟨HS.out⟩, ⟨HD.out.1, HD.out.2.1, HD.out.2.2.1⟩⟩
       case measure => first | (rw [hnn]; simp [intOf]; omega) | (simp [intOf]; omega)
    | false =>
     by_cases ho : c.e.op = 4
     ·have g3 : (c.e.op == 4) = true := beq_iff_eq.2 ho
      have g3n : (c.e.op != 4) = false := by rw [bne, g3]; rfl
      cases hq1 : (c.e.hn == x.hn) with
      | true =>
       cases hq2 : (c.e.hg == x.hg) with
       | true =>
        replace HR : Aside0 ((if c.en < 0 then (0, false) else bh s.calls x (s.calls.drop (k + 1)) (if a < c.en then c.en else a) (f || false)) = R) := ⟨by have := HR.out; rw [hm, if_neg (by unfold counts; rw [hm, g3, hq1, hq2]; simp)] at this; exact this⟩
        clear hm ho
        by_cases hn : c.en < 0
        ·have g9 : decide (c.en < 0) = true := decide_eq_true hn
         have HE := Aside0.mk (show R = (0, false) by have := HR.out; rw [if_pos hn] at this; exact this.symm)
         clear hn
         go_wp2
         exact bodyPost_ret (v := .tuple #[.int .i64 0, .bool false]) (by simp [results, Try.results61]) rfl ⟨by rw [HE.out], HD.out.2.2.1⟩
        ·have g9 : decide (c.en < 0) = false := decide_eq_false hn
         obtain ⟨v, hv⟩ : ∃ v : Int, (if a < c.en then c.en else a) = v := ⟨_, rfl⟩
         have HS := Aside0.mk (show bh s.calls x (s.calls.drop (k + 1)) v (f || false) = R by have := HR.out; rw [if_neg hn, hv] at this; exact this)
         clear hn
         cases f with
         | true =>
          go_wp2
          go_roundw
          case rel => exact ⟨k + 1, v, true, by omega, by first | rw [hnn] | simp, rfl, by first | rfl | simp [*], ⟨HS.out⟩, ⟨HD.out.1, HD.out.2.1, HD.out.2.2.1⟩⟩
          case measure => first | (rw [hnn]; simp [intOf]; omega) | (simp [intOf]; omega)
         | false =>
          go_wp2
          go_roundw
          case rel => exact ⟨k + 1, v, false, by omega, by first | rw [hnn] | simp, rfl, by first | rfl | simp [*], ⟨HS.out⟩, ⟨HD.out.1, HD.out.2.1, HD.out.2.2.1⟩⟩
          case measure => first | (rw [hnn]; simp [intOf]; omega) | (simp [intOf]; omega)
       | false =>
        have HS : Aside0 (bh s.calls x (s.calls.drop (k + 1)) a f = R) := ⟨by have := HR.out; rw [if_pos (by unfold counts; rw [hm, g3, hq1, hq2]; rfl)] at this; exact this⟩
        clear hm ho
        go_wp2
        go_roundw
        case rel => exact ⟨k + 1, a, f, by omega, by first | rw [hnn] | simp, rfl, by first | rfl | simp [*], ⟨HS.out⟩, ⟨HD.out.1, HD.out.2.1, HD.out.2.2.1⟩⟩
        case measure => first | (rw [hnn]; simp [intOf]; omega) | (simp [intOf]; omega)
      | false =>
       have HS : Aside0 (bh s.calls x (s.calls.drop (k + 1)) a f = R) := ⟨by have := HR.out; rw [if_pos (by unfold counts; rw [hm, g3, hq1]; rfl)] at this; exact this⟩
       clear hm ho
       go_wp2
       go_roundw
       case rel => exact ⟨k + 1, a, f, by omega, by first | rw [hnn] | simp, rfl, by first | rfl | simp [*], ⟨HS.out⟩, ⟨HD.out.1, HD.out.2.1, HD.out.2.2.1⟩⟩
       case measure => first | (rw [hnn]; simp [intOf]; omega) | (simp [intOf]; omega)
     ·have g3 : (c.e.op == 4) = false := beq_eq_false_iff_ne.2 ho
      have g3n : (c.e.op != 4) = true := by rw [bne, g3]; rfl
      have HS : Aside0 (bh s.calls x (s.calls.drop (k + 1)) a f = R) := ⟨by have := HR.out; rw [if_pos (by unfold counts; rw [hm, g3]; rfl)] at this; exact this⟩
      clear hm ho
      go_wp2
      go_roundw
      case rel => exact ⟨k + 1, a, f, by omega, by first | rw [hnn] | simp, rfl, by first | rfl | simp [*], ⟨HS.out⟩, ⟨HD.out.1, HD.out.2.1, HD.out.2.2.1⟩⟩
      case measure => first | (rw [hnn]; simp [intOf]; omega) | (simp [intOf]; omega)
  ·have q0 : ((k : Int) < (s.calls.length : Int)) = False := eq_false (by omega)
   have HE := Aside0.mk (show (a, f) = R by have := HR.out; rw [List.drop_eq_nil_of_le (by omega), bh] at this; exact this)
   clear hk hge
   go_wp2
   exact bodyPost_ret (v := .tuple #[.int .i64 a, .bool f]) (by simp [results, Try.results61]) rfl ⟨by rw [← HE.out], HI.out.2.2⟩
end Go.Proofs.Ythniclbmpeklmaa.Au
end
section
namespace Go.Proofs.Ythniclbmpeklmaa.Au
open Go.RowKit
set_option linter.unusedVariables false
def hit (w sl at_ : Int) (x : Life) (c : Cl) : Bool := c.e.op == 5 && (decide (c.en ≥ 0) && (decide (c.beg > at_) && (decide (c.e.wk < w) && decide (wrap64 (c.clk - x.dl) ≥ (if sl < 0 then 0 else sl)))))
def addW (t : List Int) (v : Int) : List Int := if v ∈ t then t else t ++ [v]
def thr (w sl at_ : Int) (x : Life) : List Cl → List Int → List Int
 | [], t => t
 | c :: r, t => thr w sl at_ x r (if hit w sl at_ x c = true then addW t c.e.wk else t)
def lateB (cs : List Cl) (w sl : Int) (x : Life) : Bool := (bh cs x cs (-1) false).2 && (!decide (x.til < noEnd) && decide (((thr w sl (bh cs x cs (-1) false).1 x cs []).length : Int) ≥ w))
def lateL (cs : List Cl) (w sl : Int) (lives : List Life) : List Ha := (lives.filter (lateB cs w sl)).map fun x => (x.hn, x.hg)
theorem addW_nodup {t : List Int} (h : t.Nodup) (v : Int) : (addW t v).Nodup := by
 unfold addW
 split
 ·exact h
 ·rename_i hv
  rw [List.nodup_append]
  refine ⟨h, by simp, fun a ha b hb => ?_⟩
  rw [List.mem_singleton] at hb
  rintro rfl
  exact hv (hb ▸ ha)
theorem addW_mem {t : List Int} {v u : Int} : u ∈ addW t v ↔ u ∈ t ∨ u = v := by
 unfold addW
 split
 ·rename_i hv
  exact ⟨.inl, fun h => h.elim id (fun e => e ▸ hv)⟩
 ·simp
theorem thr_nodup (w sl at_ : Int) (x : Life) : ∀ (cs : List Cl) (t : List Int), t.Nodup → (thr w sl at_ x cs t).Nodup
 | [], t, h => h
 | c :: r, t, h => by
  rw [thr]
  refine thr_nodup w sl at_ x r _ ?_
  split
  ·exact addW_nodup h _
  ·exact h
theorem thr_mem (w sl at_ : Int) (x : Life) (u : Int) : ∀ (cs : List Cl) (t : List Int), u ∈ thr w sl at_ x cs t ↔ u ∈ t ∨ ∃ c ∈ cs, hit w sl at_ x c = true ∧ c.e.wk = u
 | [], t => by simp [thr]
 | c :: r, t => by
  rw [thr, thr_mem w sl at_ x u r]
  constructor
  ·rintro (h | ⟨d, hd, h1, h2⟩)
   ·split at h
    ·rename_i hc
     rcases addW_mem.1 h with h | h
     ·exact .inl h
     ·exact .inr ⟨c, by simp, hc, h.symm⟩
    ·exact .inl h
   ·exact .inr ⟨d, by simp [hd], h1, h2⟩
  ·rintro (h | ⟨d, hd, h1, h2⟩)
   ·left
    split
    ·exact addW_mem.2 (.inl h)
    ·exact h
   ·rcases List.mem_cons.1 hd with rfl | hd
    ·left
     rw [if_pos h1]
     exact addW_mem.2 (.inr h2.symm)
    ·exact .inr ⟨d, hd, h1, h2⟩
theorem nodup_sub : ∀ {l l' : List Int}, l.Nodup → (∀ v ∈ l, v ∈ l') → l.length ≤ l'.length
 | [], l', _, _ => Nat.zero_le _
 | v :: l, l', hn, hs => by
  rw [List.nodup_cons] at hn
  have hv : v ∈ l' := hs v (by simp)
  have h1 := nodup_sub (l := l) (l' := l'.erase v) hn.2 (fun u hu => by
   have hne : u ≠ v := fun e => hn.1 (e ▸ hu)
   exact (List.mem_erase_of_ne hne).2 (hs u (by simp [hu])))
  rw [List.length_erase_of_mem hv] at h1
  have := List.length_pos_of_mem hv
  simp only [List.length_cons]
  omega
theorem split_len (p : Int → Bool) : ∀ l : List Int, l.length = (l.filter p).length + (l.filter fun v => !p v).length
 | [] => rfl
 | v :: l => by
  have := split_len p l
  cases h : p v <;> simp [h] <;> omega
theorem thr_less {w sl at_ : Int} {x : Life} {cs : List Cl} {m : Nat} {sl' : Int} (hs : sl ≤ sl') : (thr (w + m) sl' at_ x cs []).length ≤ (thr w sl at_ x cs []).length + m := by
 have hn := thr_nodup (w + m) sl' at_ x cs [] List.nodup_nil
 have hm := fun u => thr_mem (w + m) sl' at_ x u cs []
 have hm0 := fun u => thr_mem w sl at_ x u cs []
 generalize thr (w + m) sl' at_ x cs [] = T' at hn hm ⊢
 rw [split_len (fun v => decide (v < w)) T']
 refine Nat.add_le_add (nodup_sub (hn.filter _) fun v hv => ?_) ?_
 ·rw [List.mem_filter] at hv
  obtain ⟨h1, h2⟩ := hv
  have h2 : v < w := of_decide_eq_true h2
  rcases (hm v).1 h1 with h | ⟨c, hc, h3, rfl⟩
  ·simp at h
  ·refine (hm0 _).2 (.inr ⟨c, hc, ?_, rfl⟩)
   unfold hit at h3 ⊢
   simp only [Bool.and_eq_true, decide_eq_true_eq] at h3 ⊢
   refine ⟨h3.1, h3.2.1, h3.2.2.1, h2, ?_⟩
   have h4 := h3.2.2.2.2
   split at h4 <;> split <;> omega
 ·have h5 : ((List.range m).map fun i : Nat => w + (i : Int)).length = m := by simp
  refine Nat.le_trans (nodup_sub (l' := (List.range m).map fun i : Nat => w + (i : Int)) (hn.filter _) fun v hv => ?_) (Nat.le_of_eq h5)
  rw [List.mem_filter] at hv
  obtain ⟨h1, h2⟩ := hv
  have h2 : ¬ v < w := by simpa using h2
  rcases (hm v).1 h1 with h | ⟨c, hc, h3, rfl⟩
  ·simp at h
  ·unfold hit at h3
   simp only [Bool.and_eq_true, decide_eq_true_eq] at h3
   have h4 := h3.2.2.2.1
   exact List.mem_map.2 ⟨(c.e.wk - w).toNat, List.mem_range.2 (by omega), by omega⟩
theorem late_less {cs : List Cl} {w sl : Int} {lives : List Life} {m : Nat} {sl' : Int} (hs : sl ≤ sl') (h : Ha) (hh : h ∈ lateL cs (w + m) sl' lives) : h ∈ lateL cs w sl lives := by
 unfold lateL at hh ⊢
 obtain ⟨x, hx, rfl⟩ := List.mem_map.1 hh
 rw [List.mem_filter] at hx
 refine List.mem_map.2 ⟨x, List.mem_filter.2 ⟨hx.1, ?_⟩, rfl⟩
 have h1 := hx.2
 unfold lateB at h1 ⊢
 simp only [Bool.and_eq_true, decide_eq_true_eq] at h1 ⊢
 have := thr_less (w := w) (x := x) (cs := cs) (at_ := (bh cs x cs (-1) false).1) (m := m) hs
 exact ⟨h1.1, h1.2.1, by omega⟩
end Go.Proofs.Ythniclbmpeklmaa.Au
end
section
namespace Go.Proofs.Ythniclbmpeklmaa.Au
open Go.RowKit Go.Maps Go.Proofs.YthniclbmpeklmaaW.PrintWords Go.Proofs.YthniclbmpeklmaaW.PrintLast Go.Proofs.YthniclbmpeklmaaW.PrintMore Go.Proofs.Ythniclbmpeklmaa.Mp
set_option linter.unusedVariables false
set_option linter.unusedSimpArgs false
theorem thr_snoc (w sl at_ : Int) (x : Life) (c : Cl) : ∀ (cs : List Cl) (t : List Int), thr w sl at_ x (cs ++ [c]) t = if hit w sl at_ x c = true then addW (thr w sl at_ x cs t) c.e.wk else thr w sl at_ x cs t
 | [], t => rfl
 | d :: r, t => by rw [List.cons_append, thr, thr_snoc w sl at_ x c r, thr]
theorem lateL_snoc (cs : List Cl) (w sl : Int) (l : List Life) (x : Life) : lateL cs w sl (l ++ [x]) = if lateB cs w sl x = true then lateL cs w sl l ++ [(x.hn, x.hg)] else lateL cs w sl l := by
 unfold lateL
 rw [List.filter_append, List.map_append]
 cases h : lateB cs w sl x <;> simp [h]
abbrev hcA (h : Ha) : Array Value := #[.int .i64 h.1, .int .i64 h.2]
structure Lo (w W : World) (b n m1 m2 : Nat) (s : Story) (vl vv vc vo : Value) (out : List Ha) : Prop where
 st : StIs W w.heap.size b n s vl vv vc m1 m2
 ro : RowIs W w.heap.size 34 2 hcA vo out
 below : Below w.heap.size w W
section
variable {w W W1 : World} {b n m1 m2 : Nat} {s : Story} {vl vv vc vo : Value} {out : List Ha}
theorem Lo.step (h : Lo w W b n m1 m2 s vl vv vc vo out) (hb : Below W.heap.size W W1) : Lo w W1 b n m1 m2 s vl vv vc vo out := ⟨h.st.below hb, h.ro.below hb, below_step h.below hb⟩
theorem Lo.alloc (h : Lo w W b n m1 m2 s vl vv vc vo out) (o : Obj) : Lo w (W.alloc o) b n m1 m2 s vl vv vc vo out := h.step (below_alloc (Below.refl _ _) o)
theorem Lo.start (hS : StIs W w.heap.size b n s vl vv vc m1 m2) (hb : Below w.heap.size w W) : Lo w W b n m1 m2 s vl vv vc (.slice none 0 0) [] := ⟨hS, RowIs.nil _ _ _ _ _, hb⟩
theorem Lo.turned {mb : Nat} {es : Array MapEntry} {cl : Nat} (h : Lo w W b n m1 m2 s vl vv vc vo out) (q : W.heap[mb]? = some (.map es cl)) (hg : W.grownBy W1 (some mb)) (h1 : mb ≠ m1) (h2 : mb ≠ m2) (hm : w.heap.size ≤ mb) : Lo w W1 b n m1 m2 s vl vv vc vo out := by
 refine ⟨h.st.map_apart q hg h1 h2, h.ro.kept hg ?_, h.below.grown hg h.below.size (fun j hj => by cases hj; exact hm)⟩
 cases hv : vo.ownBlock with
 | none => exact .inl rfl
 | some g => exact .inr (fun e => by obtain ⟨cur, hc⟩ := h.ro.own hv; exact map_ne hc q (Option.some.inj e))
theorem Lo.app {x : Ha} {v' : Value} (h : Lo w W b n m1 m2 s vl vv vc vo out) (hown : RowIs W1 w.heap.size 34 2 hcA v' (out ++ [x])) (hg : W.grownBy W1 vo.ownBlock) : Lo w W1 b n m1 m2 s vl vv vc v' (out ++ [x]) := by
 obtain ⟨hb, h1, h2, h3, ⟨z1, hz1, hm1⟩, ⟨z2, hz2, hm2⟩⟩ := h.st.others h.ro hg (by decide)
 exact ⟨⟨hb, h1 (by decide), h2 (by decide), h3 (by decide), ⟨z1, hz1, hm1⟩, ⟨z2, hz2, hm2⟩, h.st.hb, h.st.h1, h.st.h2, h.st.m12⟩, hown, h.below.grown hg h.below.size (fun j hj => (h.ro.lt j hj).1)⟩
end
structure Mi (W : World) (mb : Nat) (th : List Int) : Prop where
 ma : ∃ f : Int → Option Int, MapIs (Value.int .i64) Try.prog 3 W mb th.length (fun u => (f u).map (Value.int .i64)) ∧ ∀ u, (f u).isSome = true ↔ u ∈ th
theorem Mi.made (w : World) : Mi (w.alloc (.map #[] 0)) w.heap.size [] := ⟨fun _ => none, MapIs.made w Try.prog 3, fun u => by simp⟩
theorem Mi.move {W W1 : World} {mb : Nat} {th : List Int} (h : Mi W mb th) (hb : W1.heap[mb]? = W.heap[mb]?) : Mi W1 mb th := by
 obtain ⟨f, hm, hf⟩ := h.ma
 exact ⟨f, hm.move hb, hf⟩
theorem Mi.lt {W : World} {mb : Nat} {th : List Int} (h : Mi W mb th) : mb < W.heap.size := by obtain ⟨f, hm, hf⟩ := h.ma; exact hm.lt
theorem Mi.below {W W1 : World} {mb : Nat} {th : List Int} (h : Mi W mb th) (hb : Below W.heap.size W W1) : Mi W1 mb th := h.move (hb.block mb h.lt)
theorem Mi.block {W : World} {mb : Nat} {th : List Int} (h : Mi W mb th) : ∃ es cl, W.heap[mb]? = some (.map es cl) := by obtain ⟨f, hm, hf⟩ := h.ma; exact hm.block
theorem Mi.put {W W1 : World} {mb : Nat} {th : List Int} {f : Int → Option Int} {v z : Int} (hf : ∀ u, (f u).isSome = true ↔ u ∈ th) (hm : MapIs (Value.int .i64) Try.prog 3 W1 mb (if ((f v).map (Value.int .i64)).isSome then th.length else th.length + 1) (fun l => if l = v then some (.int .i64 z) else (f l).map (Value.int .i64))) : Mi W1 mb (addW th v) := by
 refine ⟨fun u => if u = v then some z else f u, ?_, fun u => ?_⟩
 ·have e1 : (addW th v).length = (if ((f v).map (Value.int .i64)).isSome then th.length else th.length + 1) := by
   unfold addW
   have := hf v
   cases hv : f v with
   | none => rw [if_neg (fun q => by rw [← this, hv] at q; cases q)]; simp
   | some y => rw [if_pos (this.1 (by rw [hv]; rfl))]; simp
  have e2 : (fun u => (if u = v then some z else f u).map (Value.int .i64)) = fun l => if l = v then some (.int .i64 z) else (f l).map (Value.int .i64) := by
   funext u
   split <;> rfl
  rw [e1, e2]
  exact hm
 ·rw [addW_mem, ← hf u]
  by_cases h : u = v
  ·simp [h]
  ·simp [h]
end Go.Proofs.Ythniclbmpeklmaa.Au
end
section
namespace Go.Proofs.Ythniclbmpeklmaa.Au
open Go.RowKit Go.Maps Go.Proofs.YthniclbmpeklmaaW.PrintWords Go.Proofs.YthniclbmpeklmaaW.PrintLast Go.Proofs.YthniclbmpeklmaaW.PrintMore Go.Proofs.Ythniclbmpeklmaa.Mp
set_option linter.unusedVariables false
set_option linter.unusedSimpArgs false
attribute [local go_sem] max2_int max_two
theorem ha_info : (Try.prog.info? 34).map (fun i => (i.zero, i.size, i.bytes)) = some (some (.agg #[.int .i64 0, .int .i64 0]), 2, 16) := by kernel_rfl
theorem thr_len (w sl at_ : Int) (x : Life) : ∀ (cs : List Cl) (t : List Int), (thr w sl at_ x cs t).length ≤ t.length + cs.length
 | [], t => by simp [thr]
 | c :: r, t => by
  rw [thr]
  refine Nat.le_trans (thr_len w sl at_ x r _) ?_
  simp only [List.length_cons]
  split
  ·unfold addW
   split
   ·omega
   ·simp; omega
  ·omega
theorem lateL_len (cs : List Cl) (w sl : Int) (l : List Life) : (lateL cs w sl l).length ≤ l.length := by
 unfold lateL
 rw [List.length_map]
 exact List.length_filter_le _ _
theorem wrap_q {q n : Nat} (h : q < n) (hn : n ≤ 1000000) : wrap64 ((q : Int) + 1) = ((q + 1 : Nat) : Int) := by unfold wrap64; omega
theorem meas_q {q n : Nat} (h : q < n) (hn : n ≤ 1000000) : n - (intOf (.int .i64 (wrap64 ((q : Int) + 1)))).toNat < n - (intOf (.int .i64 (q : Int))).toNat := by rw [wrap_q h hn]; simp [intOf]; omega
theorem thr_max (w sl a : Int) (x : Life) (cs : List Cl) (q : Nat) (h2 : cs.length ≤ 1000000) : (thr w sl a x (cs.take q) []).length < maxLen := by
 have h1 := thr_len w sl a x (cs.take q) []
 rw [List.length_take] at h1
 unfold maxLen
 simp at h1
 omega
theorem late_max (cs : List Cl) (w sl : Int) (l : List Life) (k : Nat) (h1 : l.length ≤ 1000000) : (lateL cs w sl (l.take k)).length ≤ 1000000 := by
 have h2 := lateL_len cs w sl (l.take k)
 rw [List.length_take] at h2
 omega
theorem not_lt_q {q n : Nat} (h : n ≤ q) : ((q : Int) < (n : Int)) = False := eq_false (by omega)
theorem gate_upon {P : Program} {o : Oper} {a : Act} {Kc : Act → World → Prop} {Q : Exit → Act → World → Prop} {r : Result Next} (h : Oper.upon P o a Kc Q r) : Oper.upon P o a Kc Q r := h
theorem upon_put {κ : Type} [DecidableEq κ] {c : κ → Value} {P : Program} {k e : TypeId} {w : World} {b s : Nat} {f : κ → Option Value} {t : TypeId} {o : Oper} {a : Act} {Kc : Act → World → Prop} {Q : Exit → Act → World → Prop} {val : Value} (hc : ∀ x y, c x = c y → x = y) (h : MapIs c P k w b s f) (K : Keyed P k) (ht : P.underlying t = some (.map k e)) (hn : s < maxLen) {y : κ} {kl : Lit} (hkey : keyOf P k (c y) = some kl)
  (hK : ∀ w', MapIs c P k w' b (if (f y).isSome then s else s + 1) (fun l => if l = y then some val else f l) → w.grownBy w' (some b) → Kc (a.put o.dst undef) w') :
  Oper.upon P o a Kc Q (((Instr.mapUpdate t (.map (some b)) (c y) val).run P w).andThen fun _ w' => .ok .skip w') := by
 obtain ⟨w', hrun, h1, h2⟩ := h.store hc K ht hn hkey val
 rw [hrun]
 exact hK w' h1 h2.grown
structure Lm (w W : World) (b n m1 m2 : Nat) (s : Story) (vl vv vc vo : Value) (out : List Ha) (xb : Nat) (x : Life) (mb : Nat) (th : List Int) : Prop where
 lo : Lo w W b n m1 m2 s vl vv vc vo out
 xb_ : W.heap[xb]? = some (.cells (lfA x) 99 (0, 0))
 mi : Mi W mb th
 n1 : mb ≠ m1
 n2 : mb ≠ m2
 hm : w.heap.size ≤ mb
section
variable {w W W1 : World} {b n m1 m2 xb mb : Nat} {s : Story} {vl vv vc vo : Value} {out : List Ha} {x : Life} {th : List Int}
theorem Lm.step (h : Lm w W b n m1 m2 s vl vv vc vo out xb x mb th) (hb : Below W.heap.size W W1) : Lm w W1 b n m1 m2 s vl vv vc vo out xb x mb th := ⟨h.lo.step hb, blk_below h.xb_ hb, h.mi.below hb, h.n1, h.n2, h.hm⟩
theorem Lm.alloc (h : Lm w W b n m1 m2 s vl vv vc vo out xb x mb th) (o : Obj) : Lm w (W.alloc o) b n m1 m2 s vl vv vc vo out xb x mb th := h.step (below_alloc (Below.refl _ _) o)
theorem Lm.put (h : Lm w W b n m1 m2 s vl vv vc vo out xb x mb th) {th' : List Int} (hm : Mi W1 mb th') (hg : W.grownBy W1 (some mb)) : Lm w W1 b n m1 m2 s vl vv vc vo out xb x mb th' := by
 obtain ⟨es, cl, hq⟩ := h.mi.block
 exact ⟨h.lo.turned hq hg h.n1 h.n2 h.hm, blk_grown h.xb_ hg (fun q => map_ne h.xb_ hq (Option.some.inj q)), hm, h.n1, h.n2, h.hm⟩
end
set_option maxHeartbeats 8000000 in
set_option maxRecDepth 100000 in
theorem late_any {s : Story} {n : Nat} (A1 : Option Addr) (n1 c1 : Nat) (wk sl : Int) (w : World)
  (hread : Calls Try.prog 47 #[.slice A1 n1 c1] w fun r w' => ∃ b m1 m2 vl vv vc, r = .returned (.pointer (some ⟨b, 0, none⟩)) ∧ StIs w' w.heap.size b n s vl vv vc m1 m2 ∧ Below w.heap.size w w')
  (hkw : ∀ c ∈ s.calls, (Lit.int .i64 c.e.wk).wf = true) (hl1 : s.lives.length ≤ 1000000) (hl2 : s.calls.length ≤ 1000000) :
  Calls Try.prog 24 #[.slice A1 n1 c1, .int .i64 wk, .int .i64 sl] w fun r w' => ∃ v, r = .returned v ∧ RowIs w' w.heap.size 34 2 hcA v (lateL s.calls wk sl s.lives) ∧ Below w.heap.size w w' := by
 have hu97 := Try.underlying97
 have hu99 := Try.underlying99
 have hu103 := Try.underlying103
 have hu54 := Try.underlying54
 have hu34 := Try.underlying34
 have hmm := @run_makeMap Try.prog
 have CR := Aside0.mk hread
 have HKW := Aside0.mk hkw
 have HL1 := Aside0.mk hl1
 have HL2 := Aside0.mk hl2
 clear hread hkw hl1 hl2
 go_enter Try.func24, Try.ntmps24
 go_wp2_with (go_at_call 47; (with_reducible refine CR.out.mono ?_); rintro r w2 ⟨b, m1, m2, vl, vv, vc, rfl, hS, hb⟩; obtain ⟨A2, c2, rfl, hc2⟩ := hS.rv.form; obtain ⟨A3, c3, rfl, hc3⟩ := hS.rc.form; have HS0 := Aside0.mk (Lo.start hS hb); have hlt := hS.lt; have hc := fun i => hS.cell i; clear hS hb hc2 hc3)
 go_loopw [23, 8] (fun i v8 wr => ∃ (k : Nat) (vo : Value), k ≤ s.lives.length ∧ i = .int .i64 k ∧ vo = v8 ∧ Aside0 (Lo w wr b n m1 m2 s vl (.slice A2 s.lives.length c2) (.slice A3 s.calls.length c3) vo (lateL s.calls wk sl (s.lives.take k)))) (fun i _ _ => s.lives.length - (intOf i).toNat)
 case atStart => exact ⟨0, _, by omega, rfl, rfl, HS0⟩
 case round =>
  clear HS0 hlt hc
  obtain ⟨k, vo, hk, rfl, rfl, HI⟩ := hrel
  rcases Nat.lt_or_ge k s.lives.length with hlt | hge
  ·have p0 : (0 : Int) ≤ (k : Int) := by omega
   have q0 : (k : Int) < (s.lives.length : Int) := by omega
   obtain ⟨x, hx⟩ : ∃ x, s.lives[k]? = some x := ⟨_, List.getElem?_eq_getElem hlt⟩
   obtain ⟨g, cp, hv, hcp, hgl, hcell⟩ := HI.out.st.rv.at_ (fun _ => rfl) hx
   injection hv with hv1 hv2 hv3
   subst hv1
   have hnn : wrap64 ((k : Int) + 1) = ((k + 1 : Nat) : Int) := by have := HL1.out; unfold wrap64; omega
   have HTK := Aside0.mk (show lateL s.calls wk sl (s.lives.take (k + 1)) = if lateB s.calls wk sl x = true then lateL s.calls wk sl (s.lives.take k) ++ [(x.hn, x.hg)] else lateL s.calls wk sl (s.lives.take k) by obtain ⟨h1, h2⟩ := List.getElem?_eq_some_iff.1 hx; rw [List.take_succ_eq_append_getElem h1, lateL_snoc, h2])
   have d0 := hcell 0 (by decide)
   have d1 := hcell 1 (by decide)
   have d2 := hcell 2 (by decide)
   have d3 := hcell 3 (by decide)
   have d4 := hcell 4 (by decide)
   have d5 := hcell 5 (by decide)
   rw [Nat.add_zero] at d0
   replace q0 := eq_true q0
   replace p0 := eq_true p0
   clear hcell hx hv2 hv3
   have HX := Aside0.mk (show Lo w (wr.alloc (.cells (lfA x) 99)) b n m1 m2 s vl (.slice (some ⟨g, 0, none⟩) s.lives.length c2) (.slice A3 s.calls.length c3) vo (lateL s.calls wk sl (s.lives.take k)) ∧ (wr.alloc (.cells (lfA x) 99)).heap[wr.heap.size]? = some (.cells (lfA x) 99 (0, 0)) from ⟨HI.out.alloc _, blk_new _ _⟩)
   have CB : Aside0 (∀ W, (Lo w W b n m1 m2 s vl (.slice (some ⟨g, 0, none⟩) s.lives.length c2) (.slice A3 s.calls.length c3) vo (lateL s.calls wk sl (s.lives.take k))) → Calls Try.prog 61 #[.pointer (some ⟨b, 0, none⟩), .agg (lfA x)] W fun r w' => r = .returned (.tuple #[.int .i64 (bh s.calls x s.calls (-1) false).1, .bool (bh s.calls x s.calls (-1) false).2]) ∧ Below W.heap.size W w') := ⟨fun W h => behind_any x W h.st HL2.out⟩
   have HBB : Aside0 (lateB s.calls wk sl x = ((bh s.calls x s.calls (-1) false).2 && (!decide (x.til < noEnd) && decide (((thr wk sl (bh s.calls x s.calls (-1) false).1 x s.calls []).length : Int) ≥ wk)))) := ⟨rfl⟩
   obtain ⟨a, ok, hao⟩ : ∃ a ok, bh s.calls x s.calls (-1) false = (a, ok) := ⟨_, _, rfl⟩
   rw [hao] at CB HBB
   simp only at CB HBB
   clear hao HI
   have hlx := blk_lt HX.out.2
   have hcx := fun i => blk_cell HX.out.2 i
   have hlb := HX.out.1.st.lt
   have hcb := fun i => HX.out.1.st.cell i
   cases ok with
   | false =>
    have HBF := Aside0.mk (show lateB s.calls wk sl x = false by rw [HBB.out]; rfl)
    clear HBB
    go_wp2_with (first | (go_at_call 61; (with_reducible refine (CB.out _ HX.out.1).mono ?_); rintro r w3 ⟨rfl, hb⟩; have HX3 := Aside0.mk (And.intro (HX.out.1.step hb) (blk_below HX.out.2 hb)); clear hb hlx hcx hlb hcb; have hlx := blk_lt HX3.out.2; have hcx := fun i => blk_cell HX3.out.2 i; have hlb := HX3.out.1.st.lt; have hcb := fun i => HX3.out.1.st.cell i))
    go_roundw
    case rel => exact ⟨k + 1, _, Nat.succ_le_of_lt hlt, by first | rw [hnn] | simp, rfl, ⟨by rw [HTK.out]; exact (by rw [HBF.out, if_neg (by decide)]; exact HX3.out.1)⟩⟩
    case measure => exact meas_q hlt HL1.out
   | true =>
    by_cases ht : x.til < noEnd
    ·have g1 : decide (x.til < 4611686018427387904) = true := decide_eq_true ht
     have HBF := Aside0.mk (show lateB s.calls wk sl x = false by rw [HBB.out]; rw [decide_eq_true ht]; rfl)
     clear HBB
     go_wp2_with (first | (go_at_call 61; (with_reducible refine (CB.out _ HX.out.1).mono ?_); rintro r w3 ⟨rfl, hb⟩; have HX3 := Aside0.mk (And.intro (HX.out.1.step hb) (blk_below HX.out.2 hb)); clear hb hlx hcx hlb hcb; have hlx := blk_lt HX3.out.2; have hcx := fun i => blk_cell HX3.out.2 i; have hlb := HX3.out.1.st.lt; have hcb := fun i => HX3.out.1.st.cell i))
     go_roundw
     case rel => exact ⟨k + 1, _, Nat.succ_le_of_lt hlt, by first | rw [hnn] | simp, rfl, ⟨by rw [HTK.out]; exact (by rw [HBF.out, if_neg (by decide)]; exact HX3.out.1)⟩⟩
     case measure => exact meas_q hlt HL1.out
    ·have g1 : decide (x.til < 4611686018427387904) = false := decide_eq_false ht
     have HBT := Aside0.mk (show lateB s.calls wk sl x = decide (((thr wk sl a x s.calls []).length : Int) ≥ wk) by rw [HBB.out, decide_eq_false ht]; rfl)
     clear HBB ht
     go_wp2_with (first | (go_at_call 61; (with_reducible refine (CB.out _ HX.out.1).mono ?_); rintro r w3 ⟨rfl, hb⟩; have HX3 := Aside0.mk (And.intro (HX.out.1.step hb) (blk_below HX.out.2 hb)); clear hb hlx hcx hlb hcb; have hlx := blk_lt HX3.out.2; have hcx := fun i => blk_cell HX3.out.2 i; have hlb := HX3.out.1.st.lt; have hcb := fun i => HX3.out.1.st.cell i))
     have HM0 := Aside0.mk (show Lm w (w3.alloc (.map #[] 0)) b n m1 m2 s vl (.slice (some ⟨g, 0, none⟩) s.lives.length c2) (.slice A3 s.calls.length c3) vo (lateL s.calls wk sl (s.lives.take k)) wr.heap.size x w3.heap.size (thr wk sl a x (s.calls.take 0) []) from ⟨HX3.out.1.alloc _, blk_alloc HX3.out.2 _, Mi.made w3, by obtain ⟨z, _, hz⟩ := HX3.out.1.st.ma; have := hz.lt; omega, by obtain ⟨z, _, hz⟩ := HX3.out.1.st.mo; have := hz.lt; omega, HX3.out.1.below.size⟩)
     obtain ⟨mb, hmb⟩ : ∃ mb, w3.heap.size = mb := ⟨_, rfl⟩
     rw [hmb] at HM0 ⊢
     clear HX HX3 CB d0 d1 d2 d3 d4 d5 hlx hcx hlb hcb
     obtain ⟨wo, rfl⟩ : ∃ wo : World, wo = wr := ⟨_, rfl⟩
     go_loopw [46] (fun j wq => ∃ q : Nat, q ≤ s.calls.length ∧ j = .int .i64 q ∧ Aside0 (Lm w wq b n m1 m2 s vl (.slice (some ⟨g, 0, none⟩) s.lives.length c2) (.slice A3 s.calls.length c3) vo (lateL s.calls wk sl (s.lives.take k)) wo.heap.size x mb (thr wk sl a x (s.calls.take q) []))) (fun j _ => s.calls.length - (intOf j).toNat)
     case atStart => exact ⟨0, by omega, rfl, HM0⟩
     case round =>
      clear HM0
      obtain ⟨q, hq, rfl, HQ⟩ := hrel
      rcases Nat.lt_or_ge q s.calls.length with hql | hqg
      ·have p0 : (0 : Int) ≤ (q : Int) := Int.natCast_nonneg q
       have q0 : (q : Int) < (s.calls.length : Int) := Int.ofNat_lt.2 hql
       obtain ⟨c, hx⟩ : ∃ c, s.calls[q]? = some c := ⟨_, List.getElem?_eq_getElem hql⟩
       obtain ⟨g3, cp, hv, hcp, hgl, hcell⟩ := HQ.out.lo.st.rc.at_ (fun _ => rfl) hx
       injection hv with hv1 hv2 hv3
       subst hv1
       have hqq := wrap_q hql HL2.out
       have HKC := Aside0.mk (HKW.out c (get_mem hx))
       have HTH := Aside0.mk (show thr wk sl a x (s.calls.take (q + 1)) [] = if hit wk sl a x c = true then addW (thr wk sl a x (s.calls.take q) []) c.e.wk else thr wk sl a x (s.calls.take q) [] by obtain ⟨h1, h2⟩ := List.getElem?_eq_some_iff.1 hx; rw [List.take_succ_eq_append_getElem h1, thr_snoc, h2])
       have d0 := hcell 0 (by decide)
       have d1 := hcell 1 (by decide)
       have d2 := hcell 2 (by decide)
       have d3 := hcell 3 (by decide)
       have d4 := hcell 4 (by decide)
       have d5 := hcell 5 (by decide)
       have d6 := hcell 6 (by decide)
       have d7 := hcell 7 (by decide)
       have d8 := hcell 8 (by decide)
       have d9 := hcell 9 (by decide)
       have d10 := hcell 10 (by decide)
       have d11 := hcell 11 (by decide)
       have d12 := hcell 12 (by decide)
       have d13 := hcell 13 (by decide)
       have d14 := hcell 14 (by decide)
       rw [Nat.add_zero] at d0
       replace q0 := eq_true q0
       replace p0 := eq_true p0
       clear hcell hx hv2 hv3
       have HQ2 := Aside0.mk (HQ.out.alloc (.cells (clA c) 103))
       have hlx := blk_lt HQ.out.xb_
       have hcx := fun i => blk_cell HQ.out.xb_ i
       obtain ⟨v, hv⟩ : ∃ v : Int, (if sl < 0 then 0 else sl) = v := ⟨_, rfl⟩
       have HQ3 := Aside0.mk (And.intro HQ2.out (blk_new wr (.cells (clA c) 103)))
       go_upto_region 12 with (fail)
       go_cut [81] from 50 to 81 (fun v wc => v = .bool (hit wk sl a x c) ∧ Aside0 ((Lm w wc b n m1 m2 s vl (.slice (some ⟨g, 0, none⟩) s.lives.length c2) (.slice (some ⟨g3, 0, none⟩) s.calls.length c3) vo (lateL s.calls wk sl (s.lives.take k)) wo.heap.size x mb (thr wk sl a x (s.calls.take q) [])) ∧ wc.heap[wr.heap.size]? = some (.cells (clA c) 103 (0, 0))))
       case first =>
        by_cases t0 : c.e.op = 5
        ·have b0 : (c.e.op == 5) = true := beq_iff_eq.2 t0
         clear t0
         by_cases t1 : c.en ≥ 0
         ·have b1 : decide (c.en ≥ 0) = true := decide_eq_true t1
          clear t1
          by_cases t2 : c.beg > a
          ·have b2 : decide (c.beg > a) = true := decide_eq_true t2
           clear t2
           by_cases t3 : c.e.wk < wk
           ·have b3 : decide (c.e.wk < wk) = true := decide_eq_true t3
            clear t3
            by_cases t4 : wrap64 (c.clk - x.dl) ≥ v
            ·have b4 : decide (wrap64 (c.clk - x.dl) ≥ v) = true := decide_eq_true t4
             clear t4
             have HH := Aside0.mk (show hit wk sl a x c = true by unfold hit; rw [hv, b0, b1, b2, b3, b4]; rfl)
             go_wp2
             go_meet
             case rel => exact ⟨by rw [HH.out], HQ3⟩
            ·have b4 : decide (wrap64 (c.clk - x.dl) ≥ v) = false := decide_eq_false t4
             have HH := Aside0.mk (show hit wk sl a x c = false by unfold hit; rw [hv, b0, b1, b2, b3, b4]; rfl)
             clear t4
             go_wp2
             go_meet
             case rel => exact ⟨by rw [HH.out], HQ3⟩
           ·have b3 : decide (c.e.wk < wk) = false := decide_eq_false t3
            have HH := Aside0.mk (show hit wk sl a x c = false by unfold hit; rw [b0, b1, b2, b3]; rfl)
            clear t3
            go_wp2
            go_meet
            case rel => exact ⟨by rw [HH.out], HQ3⟩
          ·have b2 : decide (c.beg > a) = false := decide_eq_false t2
           have HH := Aside0.mk (show hit wk sl a x c = false by unfold hit; rw [b0, b1, b2]; rfl)
           clear t2
           go_wp2
           go_meet
           case rel => exact ⟨by rw [HH.out], HQ3⟩
         ·have b1 : decide (c.en ≥ 0) = false := decide_eq_false t1
          have HH := Aside0.mk (show hit wk sl a x c = false by unfold hit; rw [b0, b1]; rfl)
          clear t1
          go_wp2
          go_meet
          case rel => exact ⟨by rw [HH.out], HQ3⟩
        ·have b0 : (c.e.op == 5) = false := beq_eq_false_iff_ne.2 t0
         have HH := Aside0.mk (show hit wk sl a x c = false by unfold hit; rw [b0]; rfl)
         clear t0
         go_wp2
         go_meet
         case rel => exact ⟨by rw [HH.out], HQ3⟩
       case rest =>
        clear HQ2 HQ3 d0 d1 d2 d3 d4 d5 d6 d7 d8 d9 d10 d11 d12 d13 d14 hlx hcx
        obtain ⟨rfl, HQ2⟩ := hcut
        have hlc := blk_lt HQ2.out.2
        have hcc := fun i => blk_cell HQ2.out.2 i
        cases HH : hit wk sl a x c with
        | false =>
         go_wp2
         go_roundw
         case rel => exact ⟨q + 1, Nat.succ_le_of_lt hql, by first | rw [hqq] | simp, ⟨by rw [HTH.out, HH, if_neg (by decide)]; exact HQ2.out.1⟩⟩
         case measure => exact meas_q hql HL2.out
        | true =>
         obtain ⟨f, hm, hf⟩ := HQ2.out.1.mi.ma
         obtain ⟨z, hz⟩ : ∃ z, ((f c.e.wk).map (Value.int .i64)).getD (.int .i64 0) = .int .i64 z := by cases f c.e.wk with | none => exact ⟨0, rfl⟩ | some z => exact ⟨z, rfl⟩
         have HF := Aside0.mk hm
         have HFS := Aside0.mk hf
         have HZ := Aside0.mk hz
         have HMX := Aside0.mk (thr_max wk sl a x s.calls q HL2.out)
         clear hm hf hz
         go_wp2_with (first | (at_lookup; refine wpl_look_v rfl _ _ 95 rfl HF.out lawI Try.underlying95 (zeroI _) (y := c.e.wk) (keyOf_int_mk Try.underlying3 HKC.out) rfl rfl HZ.out ?_) | ((with_reducible refine gate_upon ?_); go_loud (refine upon_put int_inj' HF.out lawI Try.underlying95 HMX.out (y := c.e.wk) (keyOf_int_mk Try.underlying3 HKC.out) ?_; intro w4 hm4 hg4; have HQ4 := Aside0.mk (HQ2.out.1.put (Mi.put (W := wc) HFS.out hm4) hg4); clear hm4 hg4)))
         go_roundw
         case rel => exact ⟨q + 1, Nat.succ_le_of_lt hql, by first | rw [hqq] | simp, ⟨by rw [HTH.out, HH, if_pos rfl]; exact HQ4.out⟩⟩
         case measure => exact meas_q hql HL2.out
      ·have q0 := not_lt_q hqg
       have hfull : s.calls.take q = s.calls := List.take_of_length_le hqg
       rw [hfull] at HQ
       obtain ⟨f, hm, hf⟩ := HQ.out.mi.ma
       have hlen := fun ty => hm.len Try.underlying95 ty
       have hlx := blk_lt HQ.out.xb_
       have hcx := fun i => blk_cell HQ.out.xb_ i
       have HLL := Aside0.mk (late_max s.calls wk sl s.lives k HL1.out)
       clear hm hf hfull
       by_cases hw : ((thr wk sl a x s.calls []).length : Int) ≥ wk
       ·have b9 : decide (((thr wk sl a x s.calls []).length : Int) ≥ wk) = true := decide_eq_true hw
        have HBX := Aside0.mk (HBT.out.trans b9)
        clear hw
        go_wp2_with (first | (at_builtin; refine RowIs.append_wpl (by rfl) 31 16 _ _ _ Try.underlying31 ha_info rfl (by decide) rfl HQ.out.lo.ro (x.hn, x.hg) rfl (by simp [Value.oneCell']) (by rfl) (by rfl) HLL.out (by decide) HQ.out.lo.below.size ?_; intro gg cap6 w6 hown hgrow hat; have HP := Aside0.mk ((HQ.out.lo.alloc _).app hown hgrow); clear hown hgrow hat))
        go_roundw
        case rel => exact ⟨k + 1, _, Nat.succ_le_of_lt hlt, by first | rw [hnn] | simp, rfl, ⟨by rw [HTK.out, HBX.out, if_pos rfl]; exact HP.out⟩⟩
        case measure => exact meas_q hlt HL1.out
       ·have b9 : decide (((thr wk sl a x s.calls []).length : Int) ≥ wk) = false := decide_eq_false hw
        have HBX := Aside0.mk (HBT.out.trans b9)
        clear hw hqg hq
        go_wp2
        go_roundw
        case rel => exact ⟨k + 1, _, Nat.succ_le_of_lt hlt, by first | rw [hnn] | simp, rfl, ⟨by rw [HTK.out]; exact (by rw [HBX.out, if_neg (by decide)]; exact HQ.out.lo)⟩⟩
        case measure => exact meas_q hlt HL1.out
  ·have q0 : ((k : Int) < (s.lives.length : Int)) = False := eq_false (by omega)
   have HE := Aside0.mk (show s.lives.take k = s.lives from List.take_of_length_le (by omega))
   clear hk hge
   go_wp2
   go_ret
   exact ⟨_, rfl, by have := HI.out.ro; rw [HE.out] at this; exact this, HI.out.below⟩
end Go.Proofs.Ythniclbmpeklmaa.Au
end
section
namespace Go.Proofs.Ythniclbmpeklmaa.Au
open Go.RowKit Go.Maps Go.Proofs.YthniclbmpeklmaaW.PrintWords Go.Proofs.YthniclbmpeklmaaW.PrintLast Go.Proofs.YthniclbmpeklmaaW.PrintMore Go.Proofs.Ythniclbmpeklmaa.Mp
set_option linter.unusedVariables false
set_option linter.unusedSimpArgs false
def lateI (l : List Ev) (wk sl : Int) : List Ha := lateL (storyN (gOf l) l.length).calls wk sl (storyN (gOf l) l.length).lives
theorem calls_wk {l : List Ev} (hn : l.length ≤ 1000000) (hwf : ∀ e ∈ l, wfE e) (c : Cl) (hc : c ∈ (storyN (gOf l) l.length).calls) : (Lit.int .i64 c.e.wk).wf = true := by
 obtain ⟨j, hj, rfl⟩ := List.getElem_of_mem hc
 obtain ⟨b, hb⟩ := (inv_all (gOf l) l.length (by unfold noEnd; omega)).c.call j _ (List.getElem?_eq_getElem hj)
 rw [hb.e]
 exact (wf_g hwf hb.lt).1
theorem late_top (A1 : Option Addr) (c1 : Nat) (l : List Ev) (wk sl : Int) (hn : l.length ≤ 1000000) (w : World) (hin : ∀ (i : Nat) e, l[i]? = some e → EvAt w A1 i e) (hwf : ∀ e ∈ l, wfE e) :
  Calls Try.prog 24 #[.slice A1 l.length c1, .int .i64 wk, .int .i64 sl] w fun r w' => ∃ v, r = .returned v ∧ RowIs w' w.heap.size 34 2 hcA v (lateI l wk sl) ∧ Below w.heap.size w w' :=
 late_any A1 l.length c1 wk sl w (read_any A1 c1 l hn w hin hwf) (calls_wk hn hwf) (lives_len _ _ _ hn (Nat.le_refl _)) (calls_len _ _ _ hn (Nat.le_refl _))
theorem flat_cut2 {α : Type} {A : α → Array Value} {k : Nat} (hA : ∀ x, (A x).size = k) {l : List α} {j : Nat} {p : α} (h : l[j]? = some p) : ((l.flatMap fun x => (A x).toList).drop (j * k)).take k = (A p).toList := by
 induction l generalizing j with
 | nil => cases h
 | cons x l ih =>
  have hx : (A x).toList.length = k := by rw [Array.length_toList]; exact hA x
  cases j with
  | zero =>
   obtain rfl : x = p := Option.some.inj h
   rw [List.flatMap_cons, Nat.zero_mul, List.drop_zero, List.take_append_of_le_length (by omega), List.take_of_length_le (by omega)]
  | succ j =>
   rw [List.flatMap_cons, show (j + 1) * k = (A x).toList.length + j * k by rw [hx, Nat.succ_mul]; omega, List.drop_append, List.drop_eq_nil_of_le (by omega), Nat.add_sub_cancel_left, List.nil_append]
   exact ih h
end Go.Proofs.Ythniclbmpeklmaa.Au
end
section
namespace Go.Proofs.Ythniclbmpeklmaa.KSl
open Go.RowKit Go.Proofs.YthniclbmpeklmaaW.PrintWords Go.Proofs.YthniclbmpeklmaaW.PrintLast Go.Proofs.YthniclbmpeklmaaW.PrintMore
attribute [local go_sem] max2_int min2_int max_two min_two max_three min_three max_four min_four   -- for this text's walks alone
set_option linter.unusedVariables false
set_option linter.unusedSimpArgs false
def errW : Option Int → Value
 | none => .nilIface
 | some c => .iface 0 (.int .i64 c)
theorem errW_none : errW none = .nilIface := rfl
theorem errW_some (c : Int) : errW (some c) = .iface 0 (.int .i64 c) := rfl
theorem info54 : (Try.prog.info? 54).map (fun i => (i.zero, i.size, i.bytes)) = some (some (.agg #[(.int .i64 0), (.int .i64 0), (.int .i64 0), (.int .i64 0), (.int .i64 0), (.int .i64 0), (.int .i64 0), (.int .i64 0), (.int .i64 0), (.int .i64 0), (.bool false), (.int .i64 0)]), 12, 96) := by kernel_rfl
structure S34 where
 f0 : Int
 f1 : Int
def z34 : S34 := ⟨(0 : Int), (0 : Int)⟩
def k34 : Kd S34 := Kd.iso (Kd.pair (Kd.int .i64) (Kd.int .i64)) (fun x : S34 => (x.f0, x.f1))
theorem k34_open {w : World} {x : S34} {cs : List Value} (h : k34.K w x cs) : cs = [.int .i64 x.f0, .int .i64 x.f1] := by
 obtain ⟨_, _, rfl, rfl, rfl⟩ := h
 exact rfl
theorem k34_mkM (w : World) (base : Nat) (ok : Nat → Prop) (x : S34)  : k34.M w base ok x [.int .i64 x.f0, .int .i64 x.f1] := ⟨[.int .i64 x.f0], [.int .i64 x.f1], rfl, rfl, rfl⟩
def rd_T34 (xs : List S34) (i : Int) : S34 := xs.getD i.toNat z34
theorem at_T34 {w : World} {A : Option Addr} {n : Nat} {xs : List S34} (h : Kd.C k34 w A n xs) (i : Int) (h0 : 0 ≤ i) (h1 : i < n) : ∃ ad , A = some ad ∧ w.cell? (ad.add (i.toNat * 2)) = some (.int .i64 (rd_T34 xs i).f0) ∧ w.cell? ⟨(ad.add (i.toNat * 2)).block, (ad.add (i.toNat * 2)).off + 1, none⟩ = some (.int .i64 (rd_T34 xs i).f1) := by
 obtain ⟨ad, c, e, _, hK, hc0⟩ := Kd.C_get h z34 i h0 h1
 have hc : ∀ j u, c[j]? = some u → w.cell? (ad.add (i.toNat * 2 + j)) = some u := hc0
 obtain rfl := k34_open hK
 exact ⟨ad, e, hc 0 _ rfl, by rw [← add_field _ _ 1 (by omega)]; exact hc 1 _ rfl⟩
structure S54 where
 f0 : Int
 f1 : Int
 f2 : Int
 f3 : S34
 f4 : S34
 f5 : Int
 f6 : Int
 f7 : Int
 f8 : Bool
 f9 : Int
def z54 : S54 := ⟨(0 : Int), (0 : Int), (0 : Int), z34, z34, (0 : Int), (0 : Int), (0 : Int), false, (0 : Int)⟩
def k54 : Kd S54 := Kd.iso (Kd.pair (Kd.int .i64) (Kd.pair (Kd.int .i64) (Kd.pair (Kd.int .i64) (Kd.pair k34 (Kd.pair k34 (Kd.pair (Kd.int .i64) (Kd.pair (Kd.int .i64) (Kd.pair (Kd.int .i64) (Kd.pair Kd.bool (Kd.int .i64)))))))))) (fun x : S54 => (x.f0, x.f1, x.f2, x.f3, x.f4, x.f5, x.f6, x.f7, x.f8, x.f9))
theorem k54_open {w : World} {x : S54} {cs : List Value} (h : k54.K w x cs) : cs = [.int .i64 x.f0, .int .i64 x.f1, .int .i64 x.f2, .int .i64 x.f3.f0, .int .i64 x.f3.f1, .int .i64 x.f4.f0, .int .i64 x.f4.f1, .int .i64 x.f5, .int .i64 x.f6, .int .i64 x.f7, .bool x.f8, .int .i64 x.f9] := by
 obtain ⟨_, _, rfl, rfl, ⟨_, _, rfl, rfl, ⟨_, _, rfl, rfl, ⟨_, _, rfl, s3, ⟨_, _, rfl, s5, ⟨_, _, rfl, rfl, ⟨_, _, rfl, rfl, ⟨_, _, rfl, rfl, ⟨_, _, rfl, rfl, rfl⟩⟩⟩⟩⟩⟩⟩⟩⟩ := h
 obtain rfl := k34_open s3
 obtain rfl := k34_open s5
 exact rfl
theorem k54_mkM (w : World) (base : Nat) (ok : Nat → Prop) (x : S54)  : k54.M w base ok x [.int .i64 x.f0, .int .i64 x.f1, .int .i64 x.f2, .int .i64 x.f3.f0, .int .i64 x.f3.f1, .int .i64 x.f4.f0, .int .i64 x.f4.f1, .int .i64 x.f5, .int .i64 x.f6, .int .i64 x.f7, .bool x.f8, .int .i64 x.f9] := ⟨[.int .i64 x.f0], [.int .i64 x.f1, .int .i64 x.f2, .int .i64 x.f3.f0, .int .i64 x.f3.f1, .int .i64 x.f4.f0, .int .i64 x.f4.f1, .int .i64 x.f5, .int .i64 x.f6, .int .i64 x.f7, .bool x.f8, .int .i64 x.f9], rfl, rfl, ⟨[.int .i64 x.f1], [.int .i64 x.f2, .int .i64 x.f3.f0, .int .i64 x.f3.f1, .int .i64 x.f4.f0, .int .i64 x.f4.f1, .int .i64 x.f5, .int .i64 x.f6, .int .i64 x.f7, .bool x.f8, .int .i64 x.f9], rfl, rfl, ⟨[.int .i64 x.f2], [.int .i64 x.f3.f0, .int .i64 x.f3.f1, .int .i64 x.f4.f0, .int .i64 x.f4.f1, .int .i64 x.f5, .int .i64 x.f6, .int .i64 x.f7, .bool x.f8, .int .i64 x.f9], rfl, rfl, ⟨[.int .i64 x.f3.f0, .int .i64 x.f3.f1], [.int .i64 x.f4.f0, .int .i64 x.f4.f1, .int .i64 x.f5, .int .i64 x.f6, .int .i64 x.f7, .bool x.f8, .int .i64 x.f9], rfl, (k34_mkM w base ok x.f3 ), ⟨[.int .i64 x.f4.f0, .int .i64 x.f4.f1], [.int .i64 x.f5, .int .i64 x.f6, .int .i64 x.f7, .bool x.f8, .int .i64 x.f9], rfl, (k34_mkM w base ok x.f4 ), ⟨[.int .i64 x.f5], [.int .i64 x.f6, .int .i64 x.f7, .bool x.f8, .int .i64 x.f9], rfl, rfl, ⟨[.int .i64 x.f6], [.int .i64 x.f7, .bool x.f8, .int .i64 x.f9], rfl, rfl, ⟨[.int .i64 x.f7], [.bool x.f8, .int .i64 x.f9], rfl, rfl, ⟨[.bool x.f8], [.int .i64 x.f9], rfl, rfl, rfl⟩⟩⟩⟩⟩⟩⟩⟩⟩
def rd_T54 (xs : List S54) (i : Int) : S54 := xs.getD i.toNat z54
theorem at_T54 {w : World} {A : Option Addr} {n : Nat} {xs : List S54} (h : Kd.C k54 w A n xs) (i : Int) (h0 : 0 ≤ i) (h1 : i < n) : ∃ ad , A = some ad ∧ w.cell? (ad.add (i.toNat * 12)) = some (.int .i64 (rd_T54 xs i).f0) ∧ w.cell? ⟨(ad.add (i.toNat * 12)).block, (ad.add (i.toNat * 12)).off + 1, none⟩ = some (.int .i64 (rd_T54 xs i).f1) ∧ w.cell? ⟨(ad.add (i.toNat * 12)).block, (ad.add (i.toNat * 12)).off + 2, none⟩ = some (.int .i64 (rd_T54 xs i).f2) ∧ w.cell? ⟨(ad.add (i.toNat * 12)).block, (ad.add (i.toNat * 12)).off + 3, none⟩ = some (.int .i64 (rd_T54 xs i).f3.f0) ∧ w.cell? ⟨(ad.add (i.toNat * 12)).block, (ad.add (i.toNat * 12)).off + 4, none⟩ = some (.int .i64 (rd_T54 xs i).f3.f1) ∧ w.cell? ⟨(ad.add (i.toNat * 12)).block, (ad.add (i.toNat * 12)).off + 5, none⟩ = some (.int .i64 (rd_T54 xs i).f4.f0) ∧ w.cell? ⟨(ad.add (i.toNat * 12)).block, (ad.add (i.toNat * 12)).off + 6, none⟩ = some (.int .i64 (rd_T54 xs i).f4.f1) ∧ w.cell? ⟨(ad.add (i.toNat * 12)).block, (ad.add (i.toNat * 12)).off + 7, none⟩ = some (.int .i64 (rd_T54 xs i).f5) ∧ w.cell? ⟨(ad.add (i.toNat * 12)).block, (ad.add (i.toNat * 12)).off + 8, none⟩ = some (.int .i64 (rd_T54 xs i).f6) ∧ w.cell? ⟨(ad.add (i.toNat * 12)).block, (ad.add (i.toNat * 12)).off + 9, none⟩ = some (.int .i64 (rd_T54 xs i).f7) ∧ w.cell? ⟨(ad.add (i.toNat * 12)).block, (ad.add (i.toNat * 12)).off + 10, none⟩ = some (.bool (rd_T54 xs i).f8) ∧ w.cell? ⟨(ad.add (i.toNat * 12)).block, (ad.add (i.toNat * 12)).off + 11, none⟩ = some (.int .i64 (rd_T54 xs i).f9) := by
 obtain ⟨ad, c, e, _, hK, hc0⟩ := Kd.C_get h z54 i h0 h1
 have hc : ∀ j u, c[j]? = some u → w.cell? (ad.add (i.toNat * 12 + j)) = some u := hc0
 obtain rfl := k54_open hK
 exact ⟨ad, e, hc 0 _ rfl, by rw [← add_field _ _ 1 (by omega)]; exact hc 1 _ rfl, by rw [← add_field _ _ 2 (by omega)]; exact hc 2 _ rfl, by rw [← add_field _ _ 3 (by omega)]; exact hc 3 _ rfl, by rw [← add_field _ _ 4 (by omega)]; exact hc 4 _ rfl, by rw [← add_field _ _ 5 (by omega)]; exact hc 5 _ rfl, by rw [← add_field _ _ 6 (by omega)]; exact hc 6 _ rfl, by rw [← add_field _ _ 7 (by omega)]; exact hc 7 _ rfl, by rw [← add_field _ _ 8 (by omega)]; exact hc 8 _ rfl, by rw [← add_field _ _ 9 (by omega)]; exact hc 9 _ rfl, by rw [← add_field _ _ 10 (by omega)]; exact hc 10 _ rfl, by rw [← add_field _ _ 11 (by omega)]; exact hc 11 _ rfl⟩
structure S36 where
 f0 : Int
 f1 : Int
def z36 : S36 := ⟨(0 : Int), (0 : Int)⟩
def k36 : Kd S36 := Kd.iso (Kd.pair (Kd.int .i64) (Kd.int .i64)) (fun x : S36 => (x.f0, x.f1))
theorem k36_open {w : World} {x : S36} {cs : List Value} (h : k36.K w x cs) : cs = [.int .i64 x.f0, .int .i64 x.f1] := by
 obtain ⟨_, _, rfl, rfl, rfl⟩ := h
 exact rfl
theorem k36_mk (w : World) (x : S36)  : k36.K w x [.int .i64 x.f0, .int .i64 x.f1] := ⟨[.int .i64 x.f0], [.int .i64 x.f1], rfl, rfl, rfl⟩
structure S50 where
 f0 : Int
 f1 : Int
 f2 : Int
 f3 : S36
 f4 : S36
 f5 : Int
 f6 : Int
 f7 : Int
 f8 : Bool
 f9 : Int
def z50 : S50 := ⟨(0 : Int), (0 : Int), (0 : Int), z36, z36, (0 : Int), (0 : Int), (0 : Int), false, (0 : Int)⟩
def k50 : Kd S50 := Kd.iso (Kd.pair (Kd.int .i64) (Kd.pair (Kd.int .i64) (Kd.pair (Kd.int .i64) (Kd.pair k36 (Kd.pair k36 (Kd.pair (Kd.int .i64) (Kd.pair (Kd.int .i64) (Kd.pair (Kd.int .i64) (Kd.pair Kd.bool (Kd.int .i64)))))))))) (fun x : S50 => (x.f0, x.f1, x.f2, x.f3, x.f4, x.f5, x.f6, x.f7, x.f8, x.f9))
theorem k50_open {w : World} {x : S50} {cs : List Value} (h : k50.K w x cs) : cs = [.int .i64 x.f0, .int .i64 x.f1, .int .i64 x.f2, .int .i64 x.f3.f0, .int .i64 x.f3.f1, .int .i64 x.f4.f0, .int .i64 x.f4.f1, .int .i64 x.f5, .int .i64 x.f6, .int .i64 x.f7, .bool x.f8, .int .i64 x.f9] := by
 obtain ⟨_, _, rfl, rfl, ⟨_, _, rfl, rfl, ⟨_, _, rfl, rfl, ⟨_, _, rfl, s3, ⟨_, _, rfl, s5, ⟨_, _, rfl, rfl, ⟨_, _, rfl, rfl, ⟨_, _, rfl, rfl, ⟨_, _, rfl, rfl, rfl⟩⟩⟩⟩⟩⟩⟩⟩⟩ := h
 obtain rfl := k36_open s3
 obtain rfl := k36_open s5
 exact rfl
theorem k50_mk (w : World) (x : S50)  : k50.K w x [.int .i64 x.f0, .int .i64 x.f1, .int .i64 x.f2, .int .i64 x.f3.f0, .int .i64 x.f3.f1, .int .i64 x.f4.f0, .int .i64 x.f4.f1, .int .i64 x.f5, .int .i64 x.f6, .int .i64 x.f7, .bool x.f8, .int .i64 x.f9] := ⟨[.int .i64 x.f0], [.int .i64 x.f1, .int .i64 x.f2, .int .i64 x.f3.f0, .int .i64 x.f3.f1, .int .i64 x.f4.f0, .int .i64 x.f4.f1, .int .i64 x.f5, .int .i64 x.f6, .int .i64 x.f7, .bool x.f8, .int .i64 x.f9], rfl, rfl, ⟨[.int .i64 x.f1], [.int .i64 x.f2, .int .i64 x.f3.f0, .int .i64 x.f3.f1, .int .i64 x.f4.f0, .int .i64 x.f4.f1, .int .i64 x.f5, .int .i64 x.f6, .int .i64 x.f7, .bool x.f8, .int .i64 x.f9], rfl, rfl, ⟨[.int .i64 x.f2], [.int .i64 x.f3.f0, .int .i64 x.f3.f1, .int .i64 x.f4.f0, .int .i64 x.f4.f1, .int .i64 x.f5, .int .i64 x.f6, .int .i64 x.f7, .bool x.f8, .int .i64 x.f9], rfl, rfl, ⟨[.int .i64 x.f3.f0, .int .i64 x.f3.f1], [.int .i64 x.f4.f0, .int .i64 x.f4.f1, .int .i64 x.f5, .int .i64 x.f6, .int .i64 x.f7, .bool x.f8, .int .i64 x.f9], rfl, (k36_mk w x.f3 ), ⟨[.int .i64 x.f4.f0, .int .i64 x.f4.f1], [.int .i64 x.f5, .int .i64 x.f6, .int .i64 x.f7, .bool x.f8, .int .i64 x.f9], rfl, (k36_mk w x.f4 ), ⟨[.int .i64 x.f5], [.int .i64 x.f6, .int .i64 x.f7, .bool x.f8, .int .i64 x.f9], rfl, rfl, ⟨[.int .i64 x.f6], [.int .i64 x.f7, .bool x.f8, .int .i64 x.f9], rfl, rfl, ⟨[.int .i64 x.f7], [.bool x.f8, .int .i64 x.f9], rfl, rfl, ⟨[.bool x.f8], [.int .i64 x.f9], rfl, rfl, rfl⟩⟩⟩⟩⟩⟩⟩⟩⟩
def rd_T50 (xs : List S50) (i : Int) : S50 := xs.getD i.toNat z50
theorem at_T50 {w : World} {A : Option Addr} {n : Nat} {xs : List S50} (h : Kd.C k50 w A n xs) (i : Int) (h0 : 0 ≤ i) (h1 : i < n) : ∃ ad , A = some ad ∧ w.cell? (ad.add (i.toNat * 12)) = some (.int .i64 (rd_T50 xs i).f0) ∧ w.cell? ⟨(ad.add (i.toNat * 12)).block, (ad.add (i.toNat * 12)).off + 1, none⟩ = some (.int .i64 (rd_T50 xs i).f1) ∧ w.cell? ⟨(ad.add (i.toNat * 12)).block, (ad.add (i.toNat * 12)).off + 2, none⟩ = some (.int .i64 (rd_T50 xs i).f2) ∧ w.cell? ⟨(ad.add (i.toNat * 12)).block, (ad.add (i.toNat * 12)).off + 3, none⟩ = some (.int .i64 (rd_T50 xs i).f3.f0) ∧ w.cell? ⟨(ad.add (i.toNat * 12)).block, (ad.add (i.toNat * 12)).off + 4, none⟩ = some (.int .i64 (rd_T50 xs i).f3.f1) ∧ w.cell? ⟨(ad.add (i.toNat * 12)).block, (ad.add (i.toNat * 12)).off + 5, none⟩ = some (.int .i64 (rd_T50 xs i).f4.f0) ∧ w.cell? ⟨(ad.add (i.toNat * 12)).block, (ad.add (i.toNat * 12)).off + 6, none⟩ = some (.int .i64 (rd_T50 xs i).f4.f1) ∧ w.cell? ⟨(ad.add (i.toNat * 12)).block, (ad.add (i.toNat * 12)).off + 7, none⟩ = some (.int .i64 (rd_T50 xs i).f5) ∧ w.cell? ⟨(ad.add (i.toNat * 12)).block, (ad.add (i.toNat * 12)).off + 8, none⟩ = some (.int .i64 (rd_T50 xs i).f6) ∧ w.cell? ⟨(ad.add (i.toNat * 12)).block, (ad.add (i.toNat * 12)).off + 9, none⟩ = some (.int .i64 (rd_T50 xs i).f7) ∧ w.cell? ⟨(ad.add (i.toNat * 12)).block, (ad.add (i.toNat * 12)).off + 10, none⟩ = some (.bool (rd_T50 xs i).f8) ∧ w.cell? ⟨(ad.add (i.toNat * 12)).block, (ad.add (i.toNat * 12)).off + 11, none⟩ = some (.int .i64 (rd_T50 xs i).f9) := by
 obtain ⟨ad, c, e, _, hK, hc0⟩ := Kd.C_get h z50 i h0 h1
 have hc : ∀ j u, c[j]? = some u → w.cell? (ad.add (i.toNat * 12 + j)) = some u := hc0
 obtain rfl := k50_open hK
 exact ⟨ad, e, hc 0 _ rfl, by rw [← add_field _ _ 1 (by omega)]; exact hc 1 _ rfl, by rw [← add_field _ _ 2 (by omega)]; exact hc 2 _ rfl, by rw [← add_field _ _ 3 (by omega)]; exact hc 3 _ rfl, by rw [← add_field _ _ 4 (by omega)]; exact hc 4 _ rfl, by rw [← add_field _ _ 5 (by omega)]; exact hc 5 _ rfl, by rw [← add_field _ _ 6 (by omega)]; exact hc 6 _ rfl, by rw [← add_field _ _ 7 (by omega)]; exact hc 7 _ rfl, by rw [← add_field _ _ 8 (by omega)]; exact hc 8 _ rfl, by rw [← add_field _ _ 9 (by omega)]; exact hc 9 _ rfl, by rw [← add_field _ _ 10 (by omega)]; exact hc 10 _ rfl, by rw [← add_field _ _ 11 (by omega)]; exact hc 11 _ rfl⟩
end Go.Proofs.Ythniclbmpeklmaa.KSl
end
section
namespace Go.Proofs.Ythniclbmpeklmaa.KSl
open Go.RowKit Go.Proofs.YthniclbmpeklmaaW.PrintWords Go.Proofs.YthniclbmpeklmaaW.PrintLast Go.Proofs.YthniclbmpeklmaaW.PrintMore
attribute [local go_sem] max2_int min2_int max_two min_two max_three min_three max_four min_four   -- for this text's walks alone
set_option linter.unusedVariables false
set_option linter.unusedSimpArgs false
theorem eqA34 (d : Nat) (w : World) (x0 y0 : Int) (x1 y1 : Int) :
  (Op.equalIn (d + 2) 34 (.agg #[.int .i64 x0, .int .i64 x1]) (.agg #[.int .i64 y0, .int .i64 y1])).run Try.prog w = .ok (x0 == y0 && (x1 == y1)) w := by
 refine eqA_of Try.underlying34 (by kernel_rfl) ?_
 refine eqf_cons (by rfl) (by go_simp; rfl) (by go_simp; rfl) (by go_simp) ?_
 exact eqf_last (by rfl) (by go_simp; rfl) (by go_simp; rfl) (by go_simp)
end Go.Proofs.Ythniclbmpeklmaa.KSl
end
section
set_option maxHeartbeats 8000000
set_option maxRecDepth 100000
namespace Go.Proofs.Ythniclbmpeklmaa.KSl
open Go.RowKit Go.Proofs.YthniclbmpeklmaaW.PrintWords Go.Proofs.YthniclbmpeklmaaW.PrintLast Go.Proofs.YthniclbmpeklmaaW.PrintMore
attribute [local go_sem] max2_int min2_int max_two min_two max_three min_three max_four min_four   -- for this text's walks alone
set_option linter.unusedVariables false
set_option linter.unusedSimpArgs false
attribute [local go_sem high] eqA34
def audit_Twice.ev (x : S54) : Go.Proofs.Ythniclbmpeklmaa.Au.Ev := ⟨x.f0, x.f1, x.f2, x.f3.f0, x.f3.f1, x.f4.f0, x.f4.f1, x.f5, x.f6, x.f7, x.f8, x.f9⟩
def audit_Twice.f (l0 : List S54) : Option Int := if l0.length ≤ 1000000 ∧ (l0.all fun x => Go.Proofs.Ythniclbmpeklmaa.Au.wfB (audit_Twice.ev x)) = true then some (Go.Proofs.Ythniclbmpeklmaa.Au.twiceI (Go.Proofs.Ythniclbmpeklmaa.Au.gOf (l0.map audit_Twice.ev)) l0.length) else none
theorem audit_Twice.calls (A0 : Option Addr) (c0 : Nat) (l0 : List S54) (r : Int) (w : World) (hr0 : Kd.C k54 w A0 l0.length l0) (hc0 : l0.length ≤ c0) (h : audit_Twice.f l0 = some r) :
  Calls Try.prog 17 #[.slice A0 l0.length c0] w fun e w' => e = .returned (.int .i64 r) ∧ Below w.heap.size w w' := by
 unfold audit_Twice.f at h
 split at h
 ·rename_i hs
  cases h
  have h1 := Go.Proofs.Ythniclbmpeklmaa.Au.twice_top A0 c0 (l0.map audit_Twice.ev) (by rw [List.length_map]; exact hs.1) w (fun i e he => by
   rw [List.getElem?_map] at he
   obtain ⟨x, hx, rfl⟩ := Option.map_eq_some_iff.1 he
   have hi : i < l0.length := (List.getElem?_eq_some_iff.1 hx).1
   have hrd : rd_T54 l0 (i : Int) = x := by
    show l0.getD i z54 = x
    rw [List.getD_eq_getElem?_getD, hx]; rfl
   have hat := at_T54 hr0 (i : Int) (by omega) (by omega)
   rw [hrd] at hat
   exact hat) (fun e he => by
   obtain ⟨x, hx, rfl⟩ := List.mem_map.1 he
   exact Go.Proofs.Ythniclbmpeklmaa.Au.wfE_of (List.all_eq_true.1 hs.2 x hx))
  rw [List.length_map] at h1
  exact h1
 ·cases h
def knelllaw14_speaks.f  : Option (Bool) := (audit_Twice.f (([(⟨4, 0, 0, (⟨1, 2⟩ : S34), (⟨0, 0⟩ : S34), 3, 0, 0, false, 0⟩ : S54), (⟨4, 0, 0, (⟨1, 2⟩ : S34), (⟨0, 0⟩ : S34), 3, 0, 0, false, 0⟩ : S54)] : List (S54)))).bind fun t105 => (if t105 = 1 then ((audit_Twice.f (([(⟨4, 0, 0, (⟨1, 2⟩ : S34), (⟨0, 0⟩ : S34), 3, 0, 0, false, 0⟩ : S54)] : List (S54)))).bind fun t109 => (some (t109 == (-1)))) else (some false))
theorem knelllaw14_speaks.calls  (r : Bool) (w : World) (h : knelllaw14_speaks.f  = some r) :
  Calls Try.prog 15 #[] w fun e w' => e = .returned (.bool r) ∧ Below w.heap.size w w' := by
 have hu34 := Try.underlying34
 have hu54 := Try.underlying54
 have HB := Aside0.mk (Below.refl w.heap.size w)
 have H : ((audit_Twice.f (([(⟨4, 0, 0, (⟨1, 2⟩ : S34), (⟨0, 0⟩ : S34), 3, 0, 0, false, 0⟩ : S54), (⟨4, 0, 0, (⟨1, 2⟩ : S34), (⟨0, 0⟩ : S34), 3, 0, 0, false, 0⟩ : S54)] : List (S54)))).bind fun t105 => (if t105 = 1 then ((audit_Twice.f (([(⟨4, 0, 0, (⟨1, 2⟩ : S34), (⟨0, 0⟩ : S34), 3, 0, 0, false, 0⟩ : S54)] : List (S54)))).bind fun t109 => (some (t109 == (-1)))) else (some false))) = some r := h
 clear h
 obtain ⟨y102, hy102⟩ : ∃ y_ : List (S54), y_ = (([(⟨4, 0, 0, (⟨1, 2⟩ : S34), (⟨0, 0⟩ : S34), 3, 0, 0, false, 0⟩ : S54), (⟨4, 0, 0, (⟨1, 2⟩ : S34), (⟨0, 0⟩ : S34), 3, 0, 0, false, 0⟩ : S54)] : List (S54))) := ⟨_, rfl⟩
 replace H : ((audit_Twice.f y102).bind fun t105 => (if t105 = 1 then ((audit_Twice.f (([(⟨4, 0, 0, (⟨1, 2⟩ : S34), (⟨0, 0⟩ : S34), 3, 0, 0, false, 0⟩ : S54)] : List (S54)))).bind fun t109 => (some (t109 == (-1)))) else (some false))) = some r := by first | (rw [hy102]; with_reducible exact H) | (have H2_ := (Option.bind_some _ _).symm.trans H; rw [hy102]; with_reducible exact H2_) | (have H2_ := (Option.bind_some _ _).symm.trans H; with_reducible exact H2_) | with_reducible exact H | (rw [hy102]; exact H) | exact H
 have Ny102 := Aside0.mk hy102
 clear hy102
 replace H := Option.bind_eq_some_iff.mp H
 obtain ⟨t105, A10, H⟩ := H
 replace H : (if t105 = 1 then ((audit_Twice.f (([(⟨4, 0, 0, (⟨1, 2⟩ : S34), (⟨0, 0⟩ : S34), 3, 0, 0, false, 0⟩ : S54)] : List (S54)))).bind fun t109 => (some (t109 == (-1)))) else (some false)) = some r := H
 have A1 := Aside0.mk A10
 clear A10
 by_cases c2 : t105 = 1
 ·rw [if_pos c2] at H
  have c2b0 : (t105 == 1) = true := beq_iff_eq.mpr c2
  have c2b1 : (t105 != 1) = false := bne_eq_false_iff_eq.mpr c2
  clear c2
  obtain ⟨y106, hy106⟩ : ∃ y_ : List (S54), y_ = (([(⟨4, 0, 0, (⟨1, 2⟩ : S34), (⟨0, 0⟩ : S34), 3, 0, 0, false, 0⟩ : S54)] : List (S54))) := ⟨_, rfl⟩
  replace H : ((audit_Twice.f y106).bind fun t109 => (some (t109 == (-1)))) = some r := by first | (rw [hy106]; with_reducible exact H) | (have H2_ := (Option.bind_some _ _).symm.trans H; rw [hy106]; with_reducible exact H2_) | (have H2_ := (Option.bind_some _ _).symm.trans H; with_reducible exact H2_) | with_reducible exact H | (rw [hy106]; exact H) | exact H
  have Ny106 := Aside0.mk hy106
  clear hy106
  replace H := Option.bind_eq_some_iff.mp H
  obtain ⟨t109, A30, H⟩ := H
  replace H : (some (t109 == (-1))) = some r := H
  have A3 := Aside0.mk A30
  clear A30
  obtain rfl := Option.some.inj H
  go_enter Try.func15, Try.ntmps15
  go_wp2_with (first | ((with_reducible refine gate_dst (N := 1) rfl ?_); (try (refine gate_guard (by rfl) ?_; dsimp only)); refine box_event ?hg (N := 1) ?hd (cs := #[.int .i64 0, .int .i64 0, .int .i64 0, .int .i64 0, .int .i64 0, .int .i64 0, .int .i64 0, .int .i64 0, .int .i64 0, .int .i64 0, .bool false, .int .i64 0]) (t := 54) ?hr ?_; (case hd => rfl); (case hg => rfl); (case hr => first | (go_simp; done) | (go_simp; rfl)); intro gb101 hg w4 hbox hb; have n0_ := Aside0.mk (below_step (by repeat (first | (with_reducible first | exact HB.out | apply below_alloc | apply pw_below_drewN | apply below_drew1) | exact HB.out)) hb); have n1_ := Aside0.mk (hbox); have n2_ := Aside0.mk ((by rw [hg]; exact (below_size (by repeat (first | (with_reducible first | exact HB.out | apply below_alloc | apply pw_below_drewN | apply below_drew1) | exact HB.out))) : w.heap.size ≤ gb101)); have n3_ := Aside0.mk ((by rw [hg]; exact (below_size (by repeat (first | (with_reducible first | exact HB.out | apply below_alloc | apply pw_below_drewN | apply below_drew1) | exact HB.out))) : w.heap.size ≤ gb101)); clear HB; have HB := n0_; have BK101 := n1_; have GW101 := n2_; have GE101 := n3_; clear n0_ n1_ n2_ n3_; clear hb hbox hg; have hcz5_0 : w4.cell? ⟨gb101, 0, none⟩ = some (.int .i64 0) := (blk_cell BK101.out 0).trans rfl; have hcz5_1 : w4.cell? ⟨gb101, 1, none⟩ = some (.int .i64 0) := (blk_cell BK101.out 1).trans rfl; have hcz5_2 : w4.cell? ⟨gb101, 2, none⟩ = some (.int .i64 0) := (blk_cell BK101.out 2).trans rfl; have hcz5_3 : w4.cell? ⟨gb101, 3, none⟩ = some (.int .i64 0) := (blk_cell BK101.out 3).trans rfl; have hcz5_4 : w4.cell? ⟨gb101, 4, none⟩ = some (.int .i64 0) := (blk_cell BK101.out 4).trans rfl; have hcz5_5 : w4.cell? ⟨gb101, 5, none⟩ = some (.int .i64 0) := (blk_cell BK101.out 5).trans rfl; have hcz5_6 : w4.cell? ⟨gb101, 6, none⟩ = some (.int .i64 0) := (blk_cell BK101.out 6).trans rfl; have hcz5_7 : w4.cell? ⟨gb101, 7, none⟩ = some (.int .i64 0) := (blk_cell BK101.out 7).trans rfl; have hcz5_8 : w4.cell? ⟨gb101, 8, none⟩ = some (.int .i64 0) := (blk_cell BK101.out 8).trans rfl; have hcz5_9 : w4.cell? ⟨gb101, 9, none⟩ = some (.int .i64 0) := (blk_cell BK101.out 9).trans rfl; have hcz5_10 : w4.cell? ⟨gb101, 10, none⟩ = some (.bool false) := (blk_cell BK101.out 10).trans rfl; have hcz5_11 : w4.cell? ⟨gb101, 11, none⟩ = some (.int .i64 0) := (blk_cell BK101.out 11).trans rfl; have hfz5_0 := blk_frozen BK101.out 0; have hfz5_1 := blk_frozen BK101.out 1; have hfz5_2 := blk_frozen BK101.out 2; have hfz5_3 := blk_frozen BK101.out 3; have hfz5_4 := blk_frozen BK101.out 4; have hfz5_5 := blk_frozen BK101.out 5; have hfz5_6 := blk_frozen BK101.out 6; have hfz5_7 := blk_frozen BK101.out 7; have hfz5_8 := blk_frozen BK101.out 8; have hfz5_9 := blk_frozen BK101.out 9; have hfz5_10 := blk_frozen BK101.out 10; have hfz5_11 := blk_frozen BK101.out 11) | ((with_reducible refine gate_dst (N := 6) rfl ?_); (try (refine gate_guard (by rfl) ?_; dsimp only)); refine Kd.R_lit k54 _ 54 ?hg (N := 6) ?hd (xs := ([(⟨4, 0, 0, (⟨1, 2⟩ : S34), (⟨0, 0⟩ : S34), 3, 0, 0, false, 0⟩ : S54), (⟨4, 0, 0, (⟨1, 2⟩ : S34), (⟨0, 0⟩ : S34), 3, 0, 0, false, 0⟩ : S54)] : List (S54))) (inner := [.int .i64 4, .int .i64 0, .int .i64 0, .int .i64 1, .int .i64 2, .int .i64 0, .int .i64 0, .int .i64 3, .int .i64 0, .int .i64 0, .bool false, .int .i64 0, .int .i64 4, .int .i64 0, .int .i64 0, .int .i64 1, .int .i64 2, .int .i64 0, .int .i64 0, .int .i64 3, .int .i64 0, .int .i64 0, .bool false, .int .i64 0]) (ok := fun _ => True) (okp := fun _ => True) ?hr ?hp (fun _ hk => hk) trivial (Below.refl _ _) (Nat.le_refl _) (by simp) ?_; (case hd => rfl); (case hg => rfl); (case hr => first | (go_simp; done) | (go_simp; rfl)); (case hp => exact (Reps.front (show Kd.M k54 _ _ _ (⟨4, 0, 0, (⟨1, 2⟩ : S34), (⟨0, 0⟩ : S34), 3, 0, 0, false, 0⟩ : S54) [.int .i64 4, .int .i64 0, .int .i64 0, .int .i64 1, .int .i64 2, .int .i64 0, .int .i64 0, .int .i64 3, .int .i64 0, .int .i64 0, .bool false, .int .i64 0] from (k54_mkM _ _ _ (⟨4, 0, 0, (⟨1, 2⟩ : S34), (⟨0, 0⟩ : S34), 3, 0, 0, false, 0⟩ : S54) )) rfl (Reps.front (show Kd.M k54 _ _ _ (⟨4, 0, 0, (⟨1, 2⟩ : S34), (⟨0, 0⟩ : S34), 3, 0, 0, false, 0⟩ : S54) [.int .i64 4, .int .i64 0, .int .i64 0, .int .i64 1, .int .i64 2, .int .i64 0, .int .i64 0, .int .i64 3, .int .i64 0, .int .i64 0, .bool false, .int .i64 0] from (k54_mkM _ _ _ (⟨4, 0, 0, (⟨1, 2⟩ : S34), (⟨0, 0⟩ : S34), 3, 0, 0, false, 0⟩ : S54) )) rfl (Reps.none _ _) rfl) rfl)); intro v103 w6 ho7 hb hg_ hnew_; clear hg_ hnew_; (first | rw [← Ny102.out] at ho7 | (simp only [Int.reduceToNat] at ho7; rw [← Ny102.out] at ho7)); have n0_ := Aside0.mk (Kd.R_lower (Kd.R_newB ho7 (g := gb101) (o := .cells #[.int .i64 4, .int .i64 0, .int .i64 0, .int .i64 1, .int .i64 2, .int .i64 0, .int .i64 0, .int .i64 3, .int .i64 0, .int .i64 0, .bool false, .int .i64 0] 54 (0, 0)) (by (with_reducible repeat (first | refine blk_drewN ?_ _ | refine blk_drew ?_ | refine blk_alloc ?_ _)); refine blk_put (cs := #[.int .i64 4, .int .i64 0, .int .i64 0, .int .i64 1, .int .i64 2, .int .i64 0, .int .i64 0, .int .i64 3, .int .i64 0, .int .i64 0, .bool false, .int .i64 0]) ?_ 11 _ rfl; (with_reducible repeat (first | refine blk_drewN ?_ _ | refine blk_drew ?_ | refine blk_alloc ?_ _)); refine blk_put (cs := #[.int .i64 4, .int .i64 0, .int .i64 0, .int .i64 1, .int .i64 2, .int .i64 0, .int .i64 0, .int .i64 3, .int .i64 0, .int .i64 0, .bool false, .int .i64 0]) ?_ 10 _ rfl; (with_reducible repeat (first | refine blk_drewN ?_ _ | refine blk_drew ?_ | refine blk_alloc ?_ _)); refine blk_put (cs := #[.int .i64 4, .int .i64 0, .int .i64 0, .int .i64 1, .int .i64 2, .int .i64 0, .int .i64 0, .int .i64 3, .int .i64 0, .int .i64 0, .bool false, .int .i64 0]) ?_ 9 _ rfl; (with_reducible repeat (first | refine blk_drewN ?_ _ | refine blk_drew ?_ | refine blk_alloc ?_ _)); refine blk_put (cs := #[.int .i64 4, .int .i64 0, .int .i64 0, .int .i64 1, .int .i64 2, .int .i64 0, .int .i64 0, .int .i64 3, .int .i64 0, .int .i64 0, .bool false, .int .i64 0]) ?_ 8 _ rfl; (with_reducible repeat (first | refine blk_drewN ?_ _ | refine blk_drew ?_ | refine blk_alloc ?_ _)); refine blk_put (cs := #[.int .i64 4, .int .i64 0, .int .i64 0, .int .i64 1, .int .i64 2, .int .i64 0, .int .i64 0, .int .i64 0, .int .i64 0, .int .i64 0, .bool false, .int .i64 0]) ?_ 7 _ rfl; (with_reducible repeat (first | refine blk_drewN ?_ _ | refine blk_drew ?_ | refine blk_alloc ?_ _)); refine blk_put (cs := #[.int .i64 4, .int .i64 0, .int .i64 0, .int .i64 1, .int .i64 2, .int .i64 0, .int .i64 0, .int .i64 0, .int .i64 0, .int .i64 0, .bool false, .int .i64 0]) ?_ 6 _ rfl; (with_reducible repeat (first | refine blk_drewN ?_ _ | refine blk_drew ?_ | refine blk_alloc ?_ _)); refine blk_put (cs := #[.int .i64 4, .int .i64 0, .int .i64 0, .int .i64 1, .int .i64 2, .int .i64 0, .int .i64 0, .int .i64 0, .int .i64 0, .int .i64 0, .bool false, .int .i64 0]) ?_ 5 _ rfl; (with_reducible repeat (first | refine blk_drewN ?_ _ | refine blk_drew ?_ | refine blk_alloc ?_ _)); refine blk_put (cs := #[.int .i64 4, .int .i64 0, .int .i64 0, .int .i64 1, .int .i64 0, .int .i64 0, .int .i64 0, .int .i64 0, .int .i64 0, .int .i64 0, .bool false, .int .i64 0]) ?_ 4 _ rfl; (with_reducible repeat (first | refine blk_drewN ?_ _ | refine blk_drew ?_ | refine blk_alloc ?_ _)); refine blk_put (cs := #[.int .i64 4, .int .i64 0, .int .i64 0, .int .i64 0, .int .i64 0, .int .i64 0, .int .i64 0, .int .i64 0, .int .i64 0, .int .i64 0, .bool false, .int .i64 0]) ?_ 3 _ rfl; (with_reducible repeat (first | refine blk_drewN ?_ _ | refine blk_drew ?_ | refine blk_alloc ?_ _)); refine blk_put (cs := #[.int .i64 4, .int .i64 0, .int .i64 0, .int .i64 0, .int .i64 0, .int .i64 0, .int .i64 0, .int .i64 0, .int .i64 0, .int .i64 0, .bool false, .int .i64 0]) ?_ 2 _ rfl; (with_reducible repeat (first | refine blk_drewN ?_ _ | refine blk_drew ?_ | refine blk_alloc ?_ _)); refine blk_put (cs := #[.int .i64 4, .int .i64 0, .int .i64 0, .int .i64 0, .int .i64 0, .int .i64 0, .int .i64 0, .int .i64 0, .int .i64 0, .int .i64 0, .bool false, .int .i64 0]) ?_ 1 _ rfl; (with_reducible repeat (first | refine blk_drewN ?_ _ | refine blk_drew ?_ | refine blk_alloc ?_ _)); refine blk_put (cs := #[.int .i64 0, .int .i64 0, .int .i64 0, .int .i64 0, .int .i64 0, .int .i64 0, .int .i64 0, .int .i64 0, .int .i64 0, .int .i64 0, .bool false, .int .i64 0]) ?_ 0 _ rfl; (with_reducible repeat (first | refine blk_drewN ?_ _ | refine blk_drew ?_ | refine blk_alloc ?_ _)); exact BK101.out)) (below_size (by repeat (first | (with_reducible first | exact HB.out | apply below_alloc | apply pw_below_drewN | apply below_drew1 | refine below_set ?_ GE101.out) | exact HB.out)))); have n1_ := Aside0.mk (blk_below (g := gb101) (o := .cells #[.int .i64 4, .int .i64 0, .int .i64 0, .int .i64 1, .int .i64 2, .int .i64 0, .int .i64 0, .int .i64 3, .int .i64 0, .int .i64 0, .bool false, .int .i64 0] 54 (0, 0)) (by (with_reducible repeat (first | refine blk_drewN ?_ _ | refine blk_drew ?_ | refine blk_alloc ?_ _)); refine blk_put (cs := #[.int .i64 4, .int .i64 0, .int .i64 0, .int .i64 1, .int .i64 2, .int .i64 0, .int .i64 0, .int .i64 3, .int .i64 0, .int .i64 0, .bool false, .int .i64 0]) ?_ 11 _ rfl; (with_reducible repeat (first | refine blk_drewN ?_ _ | refine blk_drew ?_ | refine blk_alloc ?_ _)); refine blk_put (cs := #[.int .i64 4, .int .i64 0, .int .i64 0, .int .i64 1, .int .i64 2, .int .i64 0, .int .i64 0, .int .i64 3, .int .i64 0, .int .i64 0, .bool false, .int .i64 0]) ?_ 10 _ rfl; (with_reducible repeat (first | refine blk_drewN ?_ _ | refine blk_drew ?_ | refine blk_alloc ?_ _)); refine blk_put (cs := #[.int .i64 4, .int .i64 0, .int .i64 0, .int .i64 1, .int .i64 2, .int .i64 0, .int .i64 0, .int .i64 3, .int .i64 0, .int .i64 0, .bool false, .int .i64 0]) ?_ 9 _ rfl; (with_reducible repeat (first | refine blk_drewN ?_ _ | refine blk_drew ?_ | refine blk_alloc ?_ _)); refine blk_put (cs := #[.int .i64 4, .int .i64 0, .int .i64 0, .int .i64 1, .int .i64 2, .int .i64 0, .int .i64 0, .int .i64 3, .int .i64 0, .int .i64 0, .bool false, .int .i64 0]) ?_ 8 _ rfl; (with_reducible repeat (first | refine blk_drewN ?_ _ | refine blk_drew ?_ | refine blk_alloc ?_ _)); refine blk_put (cs := #[.int .i64 4, .int .i64 0, .int .i64 0, .int .i64 1, .int .i64 2, .int .i64 0, .int .i64 0, .int .i64 0, .int .i64 0, .int .i64 0, .bool false, .int .i64 0]) ?_ 7 _ rfl; (with_reducible repeat (first | refine blk_drewN ?_ _ | refine blk_drew ?_ | refine blk_alloc ?_ _)); refine blk_put (cs := #[.int .i64 4, .int .i64 0, .int .i64 0, .int .i64 1, .int .i64 2, .int .i64 0, .int .i64 0, .int .i64 0, .int .i64 0, .int .i64 0, .bool false, .int .i64 0]) ?_ 6 _ rfl; (with_reducible repeat (first | refine blk_drewN ?_ _ | refine blk_drew ?_ | refine blk_alloc ?_ _)); refine blk_put (cs := #[.int .i64 4, .int .i64 0, .int .i64 0, .int .i64 1, .int .i64 2, .int .i64 0, .int .i64 0, .int .i64 0, .int .i64 0, .int .i64 0, .bool false, .int .i64 0]) ?_ 5 _ rfl; (with_reducible repeat (first | refine blk_drewN ?_ _ | refine blk_drew ?_ | refine blk_alloc ?_ _)); refine blk_put (cs := #[.int .i64 4, .int .i64 0, .int .i64 0, .int .i64 1, .int .i64 0, .int .i64 0, .int .i64 0, .int .i64 0, .int .i64 0, .int .i64 0, .bool false, .int .i64 0]) ?_ 4 _ rfl; (with_reducible repeat (first | refine blk_drewN ?_ _ | refine blk_drew ?_ | refine blk_alloc ?_ _)); refine blk_put (cs := #[.int .i64 4, .int .i64 0, .int .i64 0, .int .i64 0, .int .i64 0, .int .i64 0, .int .i64 0, .int .i64 0, .int .i64 0, .int .i64 0, .bool false, .int .i64 0]) ?_ 3 _ rfl; (with_reducible repeat (first | refine blk_drewN ?_ _ | refine blk_drew ?_ | refine blk_alloc ?_ _)); refine blk_put (cs := #[.int .i64 4, .int .i64 0, .int .i64 0, .int .i64 0, .int .i64 0, .int .i64 0, .int .i64 0, .int .i64 0, .int .i64 0, .int .i64 0, .bool false, .int .i64 0]) ?_ 2 _ rfl; (with_reducible repeat (first | refine blk_drewN ?_ _ | refine blk_drew ?_ | refine blk_alloc ?_ _)); refine blk_put (cs := #[.int .i64 4, .int .i64 0, .int .i64 0, .int .i64 0, .int .i64 0, .int .i64 0, .int .i64 0, .int .i64 0, .int .i64 0, .int .i64 0, .bool false, .int .i64 0]) ?_ 1 _ rfl; (with_reducible repeat (first | refine blk_drewN ?_ _ | refine blk_drew ?_ | refine blk_alloc ?_ _)); refine blk_put (cs := #[.int .i64 0, .int .i64 0, .int .i64 0, .int .i64 0, .int .i64 0, .int .i64 0, .int .i64 0, .int .i64 0, .int .i64 0, .int .i64 0, .bool false, .int .i64 0]) ?_ 0 _ rfl; (with_reducible repeat (first | refine blk_drewN ?_ _ | refine blk_drew ?_ | refine blk_alloc ?_ _)); exact BK101.out) hb); have n2_ := Aside0.mk (below_step (by repeat (first | (with_reducible first | exact HB.out | apply below_alloc | apply pw_below_drewN | apply below_drew1 | refine below_set ?_ GE101.out) | exact HB.out)) hb); clear BK101; clear HB; have HO104 := n0_; have BK101 := n1_; have HB := n2_; clear n0_ n1_ n2_; clear hb ho7; obtain ⟨Ao8, co8, eo8⟩ := Kd.R_slice HO104.out; subst eo8) | ((with_reducible refine gate_callee (f := 17) rfl ?_); refine goesL_ (some 7) rfl rfl Try.func17 (by kernel_rfl) rfl #[.slice Ao8 y102.length co8] rfl (by (try simp only [List.map_toArray, List.map_cons, List.map_nil]); first | done | rfl | (simp only [List.length_drop, List.length_take]; rfl)) ?_; (with_reducible refine (audit_Twice.calls _ _ y102 t105 _ ?side1 ?side2 A1.out).mono ?_); (case side1 => repeat (first | exact (Kd.R_reads' HO104.out).2.2 | (with_reducible refine Kd.C_alloc ?_ _) | (with_reducible refine Kd.C_drewN ?_ _) | (with_reducible refine Kd.C_drew ?_))); (case side2 => exact (Kd.R_reads' HO104.out).2.1); rintro e w9 ⟨rfl, hb⟩; refine ⟨_, rfl, ?_⟩; have n0_ := Aside0.mk (Kd.R_below (by (with_reducible repeat (first | apply Kd.R_alloc | apply Kd.R_drewN | apply Kd.R_drew)); exact HO104.out) hb); have n1_ := Aside0.mk (blk_below (g := gb101) (o := .cells #[.int .i64 4, .int .i64 0, .int .i64 0, .int .i64 1, .int .i64 2, .int .i64 0, .int .i64 0, .int .i64 3, .int .i64 0, .int .i64 0, .bool false, .int .i64 0] 54 (0, 0)) (by (with_reducible repeat (first | refine blk_drewN ?_ _ | refine blk_drew ?_ | refine blk_alloc ?_ _)); exact BK101.out) hb); have n2_ := Aside0.mk (below_step (by repeat (first | (with_reducible first | exact HB.out | apply below_alloc | apply pw_below_drewN | apply below_drew1 | refine below_set ?_ GE101.out) | exact HB.out)) hb); clear HO104; clear BK101; clear HB; have HO104 := n0_; have BK101 := n1_; have HB := n2_; clear n0_ n1_ n2_; (try clear hb); (try clear hb2); (try clear hk); (try clear hi); have hcz10_0 : w9.cell? ⟨gb101, 0, none⟩ = some (.int .i64 4) := (blk_cell BK101.out 0).trans rfl; have hcz10_1 : w9.cell? ⟨gb101, 1, none⟩ = some (.int .i64 0) := (blk_cell BK101.out 1).trans rfl; have hcz10_2 : w9.cell? ⟨gb101, 2, none⟩ = some (.int .i64 0) := (blk_cell BK101.out 2).trans rfl; have hcz10_3 : w9.cell? ⟨gb101, 3, none⟩ = some (.int .i64 1) := (blk_cell BK101.out 3).trans rfl; have hcz10_4 : w9.cell? ⟨gb101, 4, none⟩ = some (.int .i64 2) := (blk_cell BK101.out 4).trans rfl; have hcz10_5 : w9.cell? ⟨gb101, 5, none⟩ = some (.int .i64 0) := (blk_cell BK101.out 5).trans rfl; have hcz10_6 : w9.cell? ⟨gb101, 6, none⟩ = some (.int .i64 0) := (blk_cell BK101.out 6).trans rfl; have hcz10_7 : w9.cell? ⟨gb101, 7, none⟩ = some (.int .i64 3) := (blk_cell BK101.out 7).trans rfl; have hcz10_8 : w9.cell? ⟨gb101, 8, none⟩ = some (.int .i64 0) := (blk_cell BK101.out 8).trans rfl; have hcz10_9 : w9.cell? ⟨gb101, 9, none⟩ = some (.int .i64 0) := (blk_cell BK101.out 9).trans rfl; have hcz10_10 : w9.cell? ⟨gb101, 10, none⟩ = some (.bool false) := (blk_cell BK101.out 10).trans rfl; have hcz10_11 : w9.cell? ⟨gb101, 11, none⟩ = some (.int .i64 0) := (blk_cell BK101.out 11).trans rfl; have hfz10_0 := blk_frozen BK101.out 0; have hfz10_1 := blk_frozen BK101.out 1; have hfz10_2 := blk_frozen BK101.out 2; have hfz10_3 := blk_frozen BK101.out 3; have hfz10_4 := blk_frozen BK101.out 4; have hfz10_5 := blk_frozen BK101.out 5; have hfz10_6 := blk_frozen BK101.out 6; have hfz10_7 := blk_frozen BK101.out 7; have hfz10_8 := blk_frozen BK101.out 8; have hfz10_9 := blk_frozen BK101.out 9; have hfz10_10 := blk_frozen BK101.out 10; have hfz10_11 := blk_frozen BK101.out 11) | ((with_reducible refine gate_dst (N := 11) rfl ?_); (try (refine gate_guard (by rfl) ?_; dsimp only)); refine Kd.R_lit k54 _ 54 ?hg (N := 11) ?hd (xs := ([(⟨4, 0, 0, (⟨1, 2⟩ : S34), (⟨0, 0⟩ : S34), 3, 0, 0, false, 0⟩ : S54)] : List (S54))) (inner := [.int .i64 4, .int .i64 0, .int .i64 0, .int .i64 1, .int .i64 2, .int .i64 0, .int .i64 0, .int .i64 3, .int .i64 0, .int .i64 0, .bool false, .int .i64 0]) (ok := fun _ => True) (okp := fun _ => True) ?hr ?hp (fun _ hk => hk) trivial (Below.refl _ _) (Nat.le_refl _) (by simp) ?_; (case hd => rfl); (case hg => rfl); (case hr => first | (go_simp; done) | (go_simp; rfl)); (case hp => exact (Reps.front (show Kd.M k54 _ _ _ (⟨4, 0, 0, (⟨1, 2⟩ : S34), (⟨0, 0⟩ : S34), 3, 0, 0, false, 0⟩ : S54) [.int .i64 4, .int .i64 0, .int .i64 0, .int .i64 1, .int .i64 2, .int .i64 0, .int .i64 0, .int .i64 3, .int .i64 0, .int .i64 0, .bool false, .int .i64 0] from (k54_mkM _ _ _ (⟨4, 0, 0, (⟨1, 2⟩ : S34), (⟨0, 0⟩ : S34), 3, 0, 0, false, 0⟩ : S54) )) rfl (Reps.none _ _) rfl)); intro v107 w11 ho12 hb hg_ hnew_; clear hg_ hnew_; (first | rw [← Ny106.out] at ho12 | (simp only [Int.reduceToNat] at ho12; rw [← Ny106.out] at ho12)); have n0_ := Aside0.mk (Kd.R_elder' (by (with_reducible repeat (first | apply Kd.R_alloc | apply Kd.R_drewN | apply Kd.R_drew)); exact HO104.out) (Kd.R_base ho12) hb); have n1_ := Aside0.mk (Kd.R_lower (Kd.R_newB (Kd.R_new' ho12 (Kd.R_lt (by (with_reducible repeat (first | apply Kd.R_alloc | apply Kd.R_drewN | apply Kd.R_drew)); exact HO104.out))) (g := gb101) (o := .cells #[.int .i64 4, .int .i64 0, .int .i64 0, .int .i64 1, .int .i64 2, .int .i64 0, .int .i64 0, .int .i64 3, .int .i64 0, .int .i64 0, .bool false, .int .i64 0] 54 (0, 0)) (by (with_reducible repeat (first | refine blk_drewN ?_ _ | refine blk_drew ?_ | refine blk_alloc ?_ _)); exact BK101.out)) (below_size (by repeat (first | (with_reducible first | exact HB.out | apply below_alloc | apply pw_below_drewN | apply below_drew1 | refine below_set ?_ GE101.out) | exact HB.out)))); have n2_ := Aside0.mk (blk_below (g := gb101) (o := .cells #[.int .i64 4, .int .i64 0, .int .i64 0, .int .i64 1, .int .i64 2, .int .i64 0, .int .i64 0, .int .i64 3, .int .i64 0, .int .i64 0, .bool false, .int .i64 0] 54 (0, 0)) (by (with_reducible repeat (first | refine blk_drewN ?_ _ | refine blk_drew ?_ | refine blk_alloc ?_ _)); exact BK101.out) hb); have n3_ := Aside0.mk (below_step (by repeat (first | (with_reducible first | exact HB.out | apply below_alloc | apply pw_below_drewN | apply below_drew1 | refine below_set ?_ GE101.out) | exact HB.out)) hb); clear HO104; clear BK101; clear HB; have HO104 := n0_; have HO108 := n1_; have BK101 := n2_; have HB := n3_; clear n0_ n1_ n2_ n3_; clear hb ho12; obtain ⟨Ao13, co13, eo13⟩ := Kd.R_slice HO108.out; subst eo13) | (go_at_call 17; (with_reducible refine (audit_Twice.calls _ _ y106 t109 _ ?side1 ?side2 A3.out).mono ?_); (case side1 => repeat (first | exact (Kd.R_reads' HO108.out).2.2 | (with_reducible refine Kd.C_alloc ?_ _) | (with_reducible refine Kd.C_drewN ?_ _) | (with_reducible refine Kd.C_drew ?_))); (case side2 => exact (Kd.R_reads' HO108.out).2.1); rintro e w14 ⟨rfl, hb⟩; have n0_ := Aside0.mk (Kd.R_below (by (with_reducible repeat (first | apply Kd.R_alloc | apply Kd.R_drewN | apply Kd.R_drew)); exact HO104.out) hb); have n1_ := Aside0.mk (Kd.R_below (by (with_reducible repeat (first | apply Kd.R_alloc | apply Kd.R_drewN | apply Kd.R_drew)); exact HO108.out) hb); have n2_ := Aside0.mk (blk_below (g := gb101) (o := .cells #[.int .i64 4, .int .i64 0, .int .i64 0, .int .i64 1, .int .i64 2, .int .i64 0, .int .i64 0, .int .i64 3, .int .i64 0, .int .i64 0, .bool false, .int .i64 0] 54 (0, 0)) (by (with_reducible repeat (first | refine blk_drewN ?_ _ | refine blk_drew ?_ | refine blk_alloc ?_ _)); exact BK101.out) hb); have n3_ := Aside0.mk (below_step (by repeat (first | (with_reducible first | exact HB.out | apply below_alloc | apply pw_below_drewN | apply below_drew1 | refine below_set ?_ GE101.out) | exact HB.out)) hb); clear HO104; clear HO108; clear BK101; clear HB; have HO104 := n0_; have HO108 := n1_; have BK101 := n2_; have HB := n3_; clear n0_ n1_ n2_ n3_; (try clear hb); (try clear hb2); (try clear hk); (try clear hi)))
  go_ret
  exact ⟨by first | rfl | (simp [errW_none, errW_some] <;> rfl) | (simp [*, errW_none, errW_some] <;> rfl), by repeat (first | (with_reducible first | exact HB.out | apply below_alloc | apply pw_below_drewN | apply below_drew1 | refine below_set ?_ GE101.out) | exact HB.out)⟩
 ·rw [if_neg c2] at H
  have c2b0 : (t105 == 1) = false := beq_eq_false_iff_ne.mpr c2
  have c2b1 : (t105 != 1) = true := bne_iff_ne.mpr c2
  obtain rfl := Option.some.inj H
  go_enter Try.func15, Try.ntmps15
  go_wp2_with (first | ((with_reducible refine gate_dst (N := 1) rfl ?_); (try (refine gate_guard (by rfl) ?_; dsimp only)); refine box_event ?hg (N := 1) ?hd (cs := #[.int .i64 0, .int .i64 0, .int .i64 0, .int .i64 0, .int .i64 0, .int .i64 0, .int .i64 0, .int .i64 0, .int .i64 0, .int .i64 0, .bool false, .int .i64 0]) (t := 54) ?hr ?_; (case hd => rfl); (case hg => rfl); (case hr => first | (go_simp; done) | (go_simp; rfl)); intro gb101 hg w15 hbox hb; have n0_ := Aside0.mk (below_step (by repeat (first | (with_reducible first | exact HB.out | apply below_alloc | apply pw_below_drewN | apply below_drew1) | exact HB.out)) hb); have n1_ := Aside0.mk (hbox); have n2_ := Aside0.mk ((by rw [hg]; exact (below_size (by repeat (first | (with_reducible first | exact HB.out | apply below_alloc | apply pw_below_drewN | apply below_drew1) | exact HB.out))) : w.heap.size ≤ gb101)); have n3_ := Aside0.mk ((by rw [hg]; exact (below_size (by repeat (first | (with_reducible first | exact HB.out | apply below_alloc | apply pw_below_drewN | apply below_drew1) | exact HB.out))) : w.heap.size ≤ gb101)); clear HB; have HB := n0_; have BK101 := n1_; have GW101 := n2_; have GE101 := n3_; clear n0_ n1_ n2_ n3_; clear hb hbox hg; have hcz16_0 : w15.cell? ⟨gb101, 0, none⟩ = some (.int .i64 0) := (blk_cell BK101.out 0).trans rfl; have hcz16_1 : w15.cell? ⟨gb101, 1, none⟩ = some (.int .i64 0) := (blk_cell BK101.out 1).trans rfl; have hcz16_2 : w15.cell? ⟨gb101, 2, none⟩ = some (.int .i64 0) := (blk_cell BK101.out 2).trans rfl; have hcz16_3 : w15.cell? ⟨gb101, 3, none⟩ = some (.int .i64 0) := (blk_cell BK101.out 3).trans rfl; have hcz16_4 : w15.cell? ⟨gb101, 4, none⟩ = some (.int .i64 0) := (blk_cell BK101.out 4).trans rfl; have hcz16_5 : w15.cell? ⟨gb101, 5, none⟩ = some (.int .i64 0) := (blk_cell BK101.out 5).trans rfl; have hcz16_6 : w15.cell? ⟨gb101, 6, none⟩ = some (.int .i64 0) := (blk_cell BK101.out 6).trans rfl; have hcz16_7 : w15.cell? ⟨gb101, 7, none⟩ = some (.int .i64 0) := (blk_cell BK101.out 7).trans rfl; have hcz16_8 : w15.cell? ⟨gb101, 8, none⟩ = some (.int .i64 0) := (blk_cell BK101.out 8).trans rfl; have hcz16_9 : w15.cell? ⟨gb101, 9, none⟩ = some (.int .i64 0) := (blk_cell BK101.out 9).trans rfl; have hcz16_10 : w15.cell? ⟨gb101, 10, none⟩ = some (.bool false) := (blk_cell BK101.out 10).trans rfl; have hcz16_11 : w15.cell? ⟨gb101, 11, none⟩ = some (.int .i64 0) := (blk_cell BK101.out 11).trans rfl; have hfz16_0 := blk_frozen BK101.out 0; have hfz16_1 := blk_frozen BK101.out 1; have hfz16_2 := blk_frozen BK101.out 2; have hfz16_3 := blk_frozen BK101.out 3; have hfz16_4 := blk_frozen BK101.out 4; have hfz16_5 := blk_frozen BK101.out 5; have hfz16_6 := blk_frozen BK101.out 6; have hfz16_7 := blk_frozen BK101.out 7; have hfz16_8 := blk_frozen BK101.out 8; have hfz16_9 := blk_frozen BK101.out 9; have hfz16_10 := blk_frozen BK101.out 10; have hfz16_11 := blk_frozen BK101.out 11) | ((with_reducible refine gate_dst (N := 6) rfl ?_); (try (refine gate_guard (by rfl) ?_; dsimp only)); refine Kd.R_lit k54 _ 54 ?hg (N := 6) ?hd (xs := ([(⟨4, 0, 0, (⟨1, 2⟩ : S34), (⟨0, 0⟩ : S34), 3, 0, 0, false, 0⟩ : S54), (⟨4, 0, 0, (⟨1, 2⟩ : S34), (⟨0, 0⟩ : S34), 3, 0, 0, false, 0⟩ : S54)] : List (S54))) (inner := [.int .i64 4, .int .i64 0, .int .i64 0, .int .i64 1, .int .i64 2, .int .i64 0, .int .i64 0, .int .i64 3, .int .i64 0, .int .i64 0, .bool false, .int .i64 0, .int .i64 4, .int .i64 0, .int .i64 0, .int .i64 1, .int .i64 2, .int .i64 0, .int .i64 0, .int .i64 3, .int .i64 0, .int .i64 0, .bool false, .int .i64 0]) (ok := fun _ => True) (okp := fun _ => True) ?hr ?hp (fun _ hk => hk) trivial (Below.refl _ _) (Nat.le_refl _) (by simp) ?_; (case hd => rfl); (case hg => rfl); (case hr => first | (go_simp; done) | (go_simp; rfl)); (case hp => exact (Reps.front (show Kd.M k54 _ _ _ (⟨4, 0, 0, (⟨1, 2⟩ : S34), (⟨0, 0⟩ : S34), 3, 0, 0, false, 0⟩ : S54) [.int .i64 4, .int .i64 0, .int .i64 0, .int .i64 1, .int .i64 2, .int .i64 0, .int .i64 0, .int .i64 3, .int .i64 0, .int .i64 0, .bool false, .int .i64 0] from (k54_mkM _ _ _ (⟨4, 0, 0, (⟨1, 2⟩ : S34), (⟨0, 0⟩ : S34), 3, 0, 0, false, 0⟩ : S54) )) rfl (Reps.front (show Kd.M k54 _ _ _ (⟨4, 0, 0, (⟨1, 2⟩ : S34), (⟨0, 0⟩ : S34), 3, 0, 0, false, 0⟩ : S54) [.int .i64 4, .int .i64 0, .int .i64 0, .int .i64 1, .int .i64 2, .int .i64 0, .int .i64 0, .int .i64 3, .int .i64 0, .int .i64 0, .bool false, .int .i64 0] from (k54_mkM _ _ _ (⟨4, 0, 0, (⟨1, 2⟩ : S34), (⟨0, 0⟩ : S34), 3, 0, 0, false, 0⟩ : S54) )) rfl (Reps.none _ _) rfl) rfl)); intro v103 w17 ho18 hb hg_ hnew_; clear hg_ hnew_; (first | rw [← Ny102.out] at ho18 | (simp only [Int.reduceToNat] at ho18; rw [← Ny102.out] at ho18)); have n0_ := Aside0.mk (Kd.R_lower (Kd.R_newB ho18 (g := gb101) (o := .cells #[.int .i64 4, .int .i64 0, .int .i64 0, .int .i64 1, .int .i64 2, .int .i64 0, .int .i64 0, .int .i64 3, .int .i64 0, .int .i64 0, .bool false, .int .i64 0] 54 (0, 0)) (by (with_reducible repeat (first | refine blk_drewN ?_ _ | refine blk_drew ?_ | refine blk_alloc ?_ _)); refine blk_put (cs := #[.int .i64 4, .int .i64 0, .int .i64 0, .int .i64 1, .int .i64 2, .int .i64 0, .int .i64 0, .int .i64 3, .int .i64 0, .int .i64 0, .bool false, .int .i64 0]) ?_ 11 _ rfl; (with_reducible repeat (first | refine blk_drewN ?_ _ | refine blk_drew ?_ | refine blk_alloc ?_ _)); refine blk_put (cs := #[.int .i64 4, .int .i64 0, .int .i64 0, .int .i64 1, .int .i64 2, .int .i64 0, .int .i64 0, .int .i64 3, .int .i64 0, .int .i64 0, .bool false, .int .i64 0]) ?_ 10 _ rfl; (with_reducible repeat (first | refine blk_drewN ?_ _ | refine blk_drew ?_ | refine blk_alloc ?_ _)); refine blk_put (cs := #[.int .i64 4, .int .i64 0, .int .i64 0, .int .i64 1, .int .i64 2, .int .i64 0, .int .i64 0, .int .i64 3, .int .i64 0, .int .i64 0, .bool false, .int .i64 0]) ?_ 9 _ rfl; (with_reducible repeat (first | refine blk_drewN ?_ _ | refine blk_drew ?_ | refine blk_alloc ?_ _)); refine blk_put (cs := #[.int .i64 4, .int .i64 0, .int .i64 0, .int .i64 1, .int .i64 2, .int .i64 0, .int .i64 0, .int .i64 3, .int .i64 0, .int .i64 0, .bool false, .int .i64 0]) ?_ 8 _ rfl; (with_reducible repeat (first | refine blk_drewN ?_ _ | refine blk_drew ?_ | refine blk_alloc ?_ _)); refine blk_put (cs := #[.int .i64 4, .int .i64 0, .int .i64 0, .int .i64 1, .int .i64 2, .int .i64 0, .int .i64 0, .int .i64 0, .int .i64 0, .int .i64 0, .bool false, .int .i64 0]) ?_ 7 _ rfl; (with_reducible repeat (first | refine blk_drewN ?_ _ | refine blk_drew ?_ | refine blk_alloc ?_ _)); refine blk_put (cs := #[.int .i64 4, .int .i64 0, .int .i64 0, .int .i64 1, .int .i64 2, .int .i64 0, .int .i64 0, .int .i64 0, .int .i64 0, .int .i64 0, .bool false, .int .i64 0]) ?_ 6 _ rfl; (with_reducible repeat (first | refine blk_drewN ?_ _ | refine blk_drew ?_ | refine blk_alloc ?_ _)); refine blk_put (cs := #[.int .i64 4, .int .i64 0, .int .i64 0, .int .i64 1, .int .i64 2, .int .i64 0, .int .i64 0, .int .i64 0, .int .i64 0, .int .i64 0, .bool false, .int .i64 0]) ?_ 5 _ rfl; (with_reducible repeat (first | refine blk_drewN ?_ _ | refine blk_drew ?_ | refine blk_alloc ?_ _)); refine blk_put (cs := #[.int .i64 4, .int .i64 0, .int .i64 0, .int .i64 1, .int .i64 0, .int .i64 0, .int .i64 0, .int .i64 0, .int .i64 0, .int .i64 0, .bool false, .int .i64 0]) ?_ 4 _ rfl; (with_reducible repeat (first | refine blk_drewN ?_ _ | refine blk_drew ?_ | refine blk_alloc ?_ _)); refine blk_put (cs := #[.int .i64 4, .int .i64 0, .int .i64 0, .int .i64 0, .int .i64 0, .int .i64 0, .int .i64 0, .int .i64 0, .int .i64 0, .int .i64 0, .bool false, .int .i64 0]) ?_ 3 _ rfl; (with_reducible repeat (first | refine blk_drewN ?_ _ | refine blk_drew ?_ | refine blk_alloc ?_ _)); refine blk_put (cs := #[.int .i64 4, .int .i64 0, .int .i64 0, .int .i64 0, .int .i64 0, .int .i64 0, .int .i64 0, .int .i64 0, .int .i64 0, .int .i64 0, .bool false, .int .i64 0]) ?_ 2 _ rfl; (with_reducible repeat (first | refine blk_drewN ?_ _ | refine blk_drew ?_ | refine blk_alloc ?_ _)); refine blk_put (cs := #[.int .i64 4, .int .i64 0, .int .i64 0, .int .i64 0, .int .i64 0, .int .i64 0, .int .i64 0, .int .i64 0, .int .i64 0, .int .i64 0, .bool false, .int .i64 0]) ?_ 1 _ rfl; (with_reducible repeat (first | refine blk_drewN ?_ _ | refine blk_drew ?_ | refine blk_alloc ?_ _)); refine blk_put (cs := #[.int .i64 0, .int .i64 0, .int .i64 0, .int .i64 0, .int .i64 0, .int .i64 0, .int .i64 0, .int .i64 0, .int .i64 0, .int .i64 0, .bool false, .int .i64 0]) ?_ 0 _ rfl; (with_reducible repeat (first | refine blk_drewN ?_ _ | refine blk_drew ?_ | refine blk_alloc ?_ _)); exact BK101.out)) (below_size (by repeat (first | (with_reducible first | exact HB.out | apply below_alloc | apply pw_below_drewN | apply below_drew1 | refine below_set ?_ GE101.out) | exact HB.out)))); have n1_ := Aside0.mk (blk_below (g := gb101) (o := .cells #[.int .i64 4, .int .i64 0, .int .i64 0, .int .i64 1, .int .i64 2, .int .i64 0, .int .i64 0, .int .i64 3, .int .i64 0, .int .i64 0, .bool false, .int .i64 0] 54 (0, 0)) (by (with_reducible repeat (first | refine blk_drewN ?_ _ | refine blk_drew ?_ | refine blk_alloc ?_ _)); refine blk_put (cs := #[.int .i64 4, .int .i64 0, .int .i64 0, .int .i64 1, .int .i64 2, .int .i64 0, .int .i64 0, .int .i64 3, .int .i64 0, .int .i64 0, .bool false, .int .i64 0]) ?_ 11 _ rfl; (with_reducible repeat (first | refine blk_drewN ?_ _ | refine blk_drew ?_ | refine blk_alloc ?_ _)); refine blk_put (cs := #[.int .i64 4, .int .i64 0, .int .i64 0, .int .i64 1, .int .i64 2, .int .i64 0, .int .i64 0, .int .i64 3, .int .i64 0, .int .i64 0, .bool false, .int .i64 0]) ?_ 10 _ rfl; (with_reducible repeat (first | refine blk_drewN ?_ _ | refine blk_drew ?_ | refine blk_alloc ?_ _)); refine blk_put (cs := #[.int .i64 4, .int .i64 0, .int .i64 0, .int .i64 1, .int .i64 2, .int .i64 0, .int .i64 0, .int .i64 3, .int .i64 0, .int .i64 0, .bool false, .int .i64 0]) ?_ 9 _ rfl; (with_reducible repeat (first | refine blk_drewN ?_ _ | refine blk_drew ?_ | refine blk_alloc ?_ _)); refine blk_put (cs := #[.int .i64 4, .int .i64 0, .int .i64 0, .int .i64 1, .int .i64 2, .int .i64 0, .int .i64 0, .int .i64 3, .int .i64 0, .int .i64 0, .bool false, .int .i64 0]) ?_ 8 _ rfl; (with_reducible repeat (first | refine blk_drewN ?_ _ | refine blk_drew ?_ | refine blk_alloc ?_ _)); refine blk_put (cs := #[.int .i64 4, .int .i64 0, .int .i64 0, .int .i64 1, .int .i64 2, .int .i64 0, .int .i64 0, .int .i64 0, .int .i64 0, .int .i64 0, .bool false, .int .i64 0]) ?_ 7 _ rfl; (with_reducible repeat (first | refine blk_drewN ?_ _ | refine blk_drew ?_ | refine blk_alloc ?_ _)); refine blk_put (cs := #[.int .i64 4, .int .i64 0, .int .i64 0, .int .i64 1, .int .i64 2, .int .i64 0, .int .i64 0, .int .i64 0, .int .i64 0, .int .i64 0, .bool false, .int .i64 0]) ?_ 6 _ rfl; (with_reducible repeat (first | refine blk_drewN ?_ _ | refine blk_drew ?_ | refine blk_alloc ?_ _)); refine blk_put (cs := #[.int .i64 4, .int .i64 0, .int .i64 0, .int .i64 1, .int .i64 2, .int .i64 0, .int .i64 0, .int .i64 0, .int .i64 0, .int .i64 0, .bool false, .int .i64 0]) ?_ 5 _ rfl; (with_reducible repeat (first | refine blk_drewN ?_ _ | refine blk_drew ?_ | refine blk_alloc ?_ _)); refine blk_put (cs := #[.int .i64 4, .int .i64 0, .int .i64 0, .int .i64 1, .int .i64 0, .int .i64 0, .int .i64 0, .int .i64 0, .int .i64 0, .int .i64 0, .bool false, .int .i64 0]) ?_ 4 _ rfl; (with_reducible repeat (first | refine blk_drewN ?_ _ | refine blk_drew ?_ | refine blk_alloc ?_ _)); refine blk_put (cs := #[.int .i64 4, .int .i64 0, .int .i64 0, .int .i64 0, .int .i64 0, .int .i64 0, .int .i64 0, .int .i64 0, .int .i64 0, .int .i64 0, .bool false, .int .i64 0]) ?_ 3 _ rfl; (with_reducible repeat (first | refine blk_drewN ?_ _ | refine blk_drew ?_ | refine blk_alloc ?_ _)); refine blk_put (cs := #[.int .i64 4, .int .i64 0, .int .i64 0, .int .i64 0, .int .i64 0, .int .i64 0, .int .i64 0, .int .i64 0, .int .i64 0, .int .i64 0, .bool false, .int .i64 0]) ?_ 2 _ rfl; (with_reducible repeat (first | refine blk_drewN ?_ _ | refine blk_drew ?_ | refine blk_alloc ?_ _)); refine blk_put (cs := #[.int .i64 4, .int .i64 0, .int .i64 0, .int .i64 0, .int .i64 0, .int .i64 0, .int .i64 0, .int .i64 0, .int .i64 0, .int .i64 0, .bool false, .int .i64 0]) ?_ 1 _ rfl; (with_reducible repeat (first | refine blk_drewN ?_ _ | refine blk_drew ?_ | refine blk_alloc ?_ _)); refine blk_put (cs := #[.int .i64 0, .int .i64 0, .int .i64 0, .int .i64 0, .int .i64 0, .int .i64 0, .int .i64 0, .int .i64 0, .int .i64 0, .int .i64 0, .bool false, .int .i64 0]) ?_ 0 _ rfl; (with_reducible repeat (first | refine blk_drewN ?_ _ | refine blk_drew ?_ | refine blk_alloc ?_ _)); exact BK101.out) hb); have n2_ := Aside0.mk (below_step (by repeat (first | (with_reducible first | exact HB.out | apply below_alloc | apply pw_below_drewN | apply below_drew1 | refine below_set ?_ GE101.out) | exact HB.out)) hb); clear BK101; clear HB; have HO104 := n0_; have BK101 := n1_; have HB := n2_; clear n0_ n1_ n2_; clear hb ho18; obtain ⟨Ao19, co19, eo19⟩ := Kd.R_slice HO104.out; subst eo19) | ((with_reducible refine gate_callee (f := 17) rfl ?_); refine goesL_ (some 7) rfl rfl Try.func17 (by kernel_rfl) rfl #[.slice Ao19 y102.length co19] rfl (by (try simp only [List.map_toArray, List.map_cons, List.map_nil]); first | done | rfl | (simp only [List.length_drop, List.length_take]; rfl)) ?_; (with_reducible refine (audit_Twice.calls _ _ y102 t105 _ ?side1 ?side2 A1.out).mono ?_); (case side1 => repeat (first | exact (Kd.R_reads' HO104.out).2.2 | (with_reducible refine Kd.C_alloc ?_ _) | (with_reducible refine Kd.C_drewN ?_ _) | (with_reducible refine Kd.C_drew ?_))); (case side2 => exact (Kd.R_reads' HO104.out).2.1); rintro e w20 ⟨rfl, hb⟩; refine ⟨_, rfl, ?_⟩; have n0_ := Aside0.mk (Kd.R_below (by (with_reducible repeat (first | apply Kd.R_alloc | apply Kd.R_drewN | apply Kd.R_drew)); exact HO104.out) hb); have n1_ := Aside0.mk (blk_below (g := gb101) (o := .cells #[.int .i64 4, .int .i64 0, .int .i64 0, .int .i64 1, .int .i64 2, .int .i64 0, .int .i64 0, .int .i64 3, .int .i64 0, .int .i64 0, .bool false, .int .i64 0] 54 (0, 0)) (by (with_reducible repeat (first | refine blk_drewN ?_ _ | refine blk_drew ?_ | refine blk_alloc ?_ _)); exact BK101.out) hb); have n2_ := Aside0.mk (below_step (by repeat (first | (with_reducible first | exact HB.out | apply below_alloc | apply pw_below_drewN | apply below_drew1 | refine below_set ?_ GE101.out) | exact HB.out)) hb); clear HO104; clear BK101; clear HB; have HO104 := n0_; have BK101 := n1_; have HB := n2_; clear n0_ n1_ n2_; (try clear hb); (try clear hb2); (try clear hk); (try clear hi)))
  go_ret
  exact ⟨by first | rfl | (simp [errW_none, errW_some] <;> rfl) | (simp [*, errW_none, errW_some] <;> rfl), by repeat (first | (with_reducible first | exact HB.out | apply below_alloc | apply pw_below_drewN | apply below_drew1 | refine below_set ?_ GE101.out) | exact HB.out)⟩
def knelllaw11_Of.f (a0_0 : Int) (a0_1 : Int) (a0_2 : Int) (a0_3 : Int) (a0_4 : Int) (a0_5 : Int) (a0_6 : Int) (a0_7 : Int) (a0_8 : Int) (a0_9 : Int) (a0_10 : Bool) (a0_11 : Int) : Option (Int × Int × Int × Int × Int × Int × Int × Int × Int × Int × Bool × Int) := some (a0_0, a0_1, a0_2, a0_3, a0_4, a0_5, a0_6, a0_7, a0_8, a0_9, a0_10, a0_11)
theorem knelllaw11_Of.calls (a0_0 : Int) (a0_1 : Int) (a0_2 : Int) (a0_3 : Int) (a0_4 : Int) (a0_5 : Int) (a0_6 : Int) (a0_7 : Int) (a0_8 : Int) (a0_9 : Int) (a0_10 : Bool) (a0_11 : Int) (r1 : Int) (r2 : Int) (r3 : Int) (r4 : Int) (r5 : Int) (r6 : Int) (r7 : Int) (r8 : Int) (r9 : Int) (r10 : Int) (r11 : Bool) (r12 : Int) (w : World) (h : knelllaw11_Of.f a0_0 a0_1 a0_2 a0_3 a0_4 a0_5 a0_6 a0_7 a0_8 a0_9 a0_10 a0_11 = some (r1, r2, r3, r4, r5, r6, r7, r8, r9, r10, r11, r12)) :
  Calls Try.prog 30 #[.agg #[.int .i64 a0_0, .int .i64 a0_1, .int .i64 a0_2, .int .i64 a0_3, .int .i64 a0_4, .int .i64 a0_5, .int .i64 a0_6, .int .i64 a0_7, .int .i64 a0_8, .int .i64 a0_9, .bool a0_10, .int .i64 a0_11]] w fun e w' => e = .returned (.agg #[.int .i64 r1, .int .i64 r2, .int .i64 r3, .int .i64 r4, .int .i64 r5, .int .i64 r6, .int .i64 r7, .int .i64 r8, .int .i64 r9, .int .i64 r10, .bool r11, .int .i64 r12]) ∧ Below w.heap.size w w' := by
 have hu50 := Try.underlying50
 have hu54 := Try.underlying54
 have hu34 := Try.underlying34
 have HB := Aside0.mk (Below.refl w.heap.size w)
 have H : (some (a0_0, a0_1, a0_2, a0_3, a0_4, a0_5, a0_6, a0_7, a0_8, a0_9, a0_10, a0_11)) = some (r1, r2, r3, r4, r5, r6, r7, r8, r9, r10, r11, r12) := h
 clear h
 simp only [Option.some.injEq, Prod.mk.injEq] at H
 obtain ⟨rfl, rfl, rfl, rfl, rfl, rfl, rfl, rfl, rfl, rfl, rfl, rfl⟩ := H
 go_enter Try.func30, Try.ntmps30
 go_wp2_with (first | ((with_reducible refine gate_dst (N := 1) rfl ?_); refine box_event ?hg (N := 1) ?hd (cs := #[.int .i64 a0_0, .int .i64 a0_1, .int .i64 a0_2, .int .i64 a0_3, .int .i64 a0_4, .int .i64 a0_5, .int .i64 a0_6, .int .i64 a0_7, .int .i64 a0_8, .int .i64 a0_9, .bool a0_10, .int .i64 a0_11]) (t := 50) ?hr ?_; (case hd => rfl); (case hg => rfl); (case hr => first | (go_simp; done) | (go_simp; rfl)); intro gb110 hg w2 hbox hb; have n0_ := Aside0.mk (below_step (by repeat (first | (with_reducible first | exact HB.out | apply below_alloc | apply pw_below_drewN | apply below_drew1) | exact HB.out)) hb); have n1_ := Aside0.mk (hbox); have n2_ := Aside0.mk ((by rw [hg]; exact (below_size (by repeat (first | (with_reducible first | exact HB.out | apply below_alloc | apply pw_below_drewN | apply below_drew1) | exact HB.out))) : w.heap.size ≤ gb110)); have n3_ := Aside0.mk ((by rw [hg]; exact (below_size (by repeat (first | (with_reducible first | exact HB.out | apply below_alloc | apply pw_below_drewN | apply below_drew1) | exact HB.out))) : w.heap.size ≤ gb110)); clear HB; have HB := n0_; have BK110 := n1_; have GW110 := n2_; have GE110 := n3_; clear n0_ n1_ n2_ n3_; clear hb hbox hg) | ((with_reducible refine gate_dst (N := 2) rfl ?_); refine box_event ?hg (N := 2) ?hd (cs := #[.int .i64 0, .int .i64 0, .int .i64 0, .int .i64 0, .int .i64 0, .int .i64 0, .int .i64 0, .int .i64 0, .int .i64 0, .int .i64 0, .bool false, .int .i64 0]) (t := 54) ?hr ?_; (case hd => rfl); (case hg => rfl); (case hr => first | (go_simp; done) | (go_simp; rfl)); intro gb111 hg w3 hbox hb; have n0_ := Aside0.mk (blk_below (g := gb110) (o := .cells #[.int .i64 a0_0, .int .i64 a0_1, .int .i64 a0_2, .int .i64 a0_3, .int .i64 a0_4, .int .i64 a0_5, .int .i64 a0_6, .int .i64 a0_7, .int .i64 a0_8, .int .i64 a0_9, .bool a0_10, .int .i64 a0_11] 50 (0, 0)) (by (with_reducible repeat (first | refine blk_drewN ?_ _ | refine blk_drew ?_ | refine blk_alloc ?_ _)); exact BK110.out) hb); have n1_ := Aside0.mk (below_step (by repeat (first | (with_reducible first | exact HB.out | apply below_alloc | apply pw_below_drewN | apply below_drew1 | refine below_set ?_ GE110.out) | exact HB.out)) hb); have n2_ := Aside0.mk (hbox); have n3_ := Aside0.mk ((by rw [hg]; exact (below_size (by repeat (first | (with_reducible first | exact HB.out | apply below_alloc | apply pw_below_drewN | apply below_drew1 | refine below_set ?_ GE110.out) | exact HB.out))) : w.heap.size ≤ gb111)); have n4_ := Aside0.mk ((by rw [hg]; exact (below_size (by repeat (first | (with_reducible first | exact HB.out | apply below_alloc | apply pw_below_drewN | apply below_drew1 | refine below_set ?_ GE110.out) | exact HB.out))) : w.heap.size ≤ gb111)); have n5_ := Aside0.mk ((by rw [hg]; exact Nat.ne_of_lt (blk_lt (g := gb110) (o := .cells #[.int .i64 a0_0, .int .i64 a0_1, .int .i64 a0_2, .int .i64 a0_3, .int .i64 a0_4, .int .i64 a0_5, .int .i64 a0_6, .int .i64 a0_7, .int .i64 a0_8, .int .i64 a0_9, .bool a0_10, .int .i64 a0_11] 50 (0, 0)) (by (with_reducible repeat (first | refine blk_drewN ?_ _ | refine blk_drew ?_ | refine blk_alloc ?_ _)); exact BK110.out)) : gb110 ≠ gb111)); have n6_ := Aside0.mk ((by rw [hg]; exact Nat.ne_of_gt (blk_lt (g := gb110) (o := .cells #[.int .i64 a0_0, .int .i64 a0_1, .int .i64 a0_2, .int .i64 a0_3, .int .i64 a0_4, .int .i64 a0_5, .int .i64 a0_6, .int .i64 a0_7, .int .i64 a0_8, .int .i64 a0_9, .bool a0_10, .int .i64 a0_11] 50 (0, 0)) (by (with_reducible repeat (first | refine blk_drewN ?_ _ | refine blk_drew ?_ | refine blk_alloc ?_ _)); exact BK110.out)) : gb111 ≠ gb110)); clear BK110; clear HB; have BK110 := n0_; have HB := n1_; have BK111 := n2_; have GW111 := n3_; have GE111 := n4_; have NB110_111 := n5_; have NB111_110 := n6_; clear n0_ n1_ n2_ n3_ n4_ n5_ n6_; clear hb hbox hg; have hnb4 := NB110_111.out; have hnc4 := NB111_110.out; have hcz5_0 : w3.cell? ⟨gb110, 0, none⟩ = some (.int .i64 a0_0) := (blk_cell BK110.out 0).trans rfl; have hcz5_1 : w3.cell? ⟨gb110, 1, none⟩ = some (.int .i64 a0_1) := (blk_cell BK110.out 1).trans rfl; have hcz5_2 : w3.cell? ⟨gb110, 2, none⟩ = some (.int .i64 a0_2) := (blk_cell BK110.out 2).trans rfl; have hcz5_3 : w3.cell? ⟨gb110, 3, none⟩ = some (.int .i64 a0_3) := (blk_cell BK110.out 3).trans rfl; have hcz5_4 : w3.cell? ⟨gb110, 4, none⟩ = some (.int .i64 a0_4) := (blk_cell BK110.out 4).trans rfl; have hcz5_5 : w3.cell? ⟨gb110, 5, none⟩ = some (.int .i64 a0_5) := (blk_cell BK110.out 5).trans rfl; have hcz5_6 : w3.cell? ⟨gb110, 6, none⟩ = some (.int .i64 a0_6) := (blk_cell BK110.out 6).trans rfl; have hcz5_7 : w3.cell? ⟨gb110, 7, none⟩ = some (.int .i64 a0_7) := (blk_cell BK110.out 7).trans rfl; have hcz5_8 : w3.cell? ⟨gb110, 8, none⟩ = some (.int .i64 a0_8) := (blk_cell BK110.out 8).trans rfl; have hcz5_9 : w3.cell? ⟨gb110, 9, none⟩ = some (.int .i64 a0_9) := (blk_cell BK110.out 9).trans rfl; have hcz5_10 : w3.cell? ⟨gb110, 10, none⟩ = some (.bool a0_10) := (blk_cell BK110.out 10).trans rfl; have hcz5_11 : w3.cell? ⟨gb110, 11, none⟩ = some (.int .i64 a0_11) := (blk_cell BK110.out 11).trans rfl; have hfz5_0 := blk_frozen BK110.out 0; have hfz5_1 := blk_frozen BK110.out 1; have hfz5_2 := blk_frozen BK110.out 2; have hfz5_3 := blk_frozen BK110.out 3; have hfz5_4 := blk_frozen BK110.out 4; have hfz5_5 := blk_frozen BK110.out 5; have hfz5_6 := blk_frozen BK110.out 6; have hfz5_7 := blk_frozen BK110.out 7; have hfz5_8 := blk_frozen BK110.out 8; have hfz5_9 := blk_frozen BK110.out 9; have hfz5_10 := blk_frozen BK110.out 10; have hfz5_11 := blk_frozen BK110.out 11; have hcz6_0 : w3.cell? ⟨gb111, 0, none⟩ = some (.int .i64 0) := (blk_cell BK111.out 0).trans rfl; have hcz6_1 : w3.cell? ⟨gb111, 1, none⟩ = some (.int .i64 0) := (blk_cell BK111.out 1).trans rfl; have hcz6_2 : w3.cell? ⟨gb111, 2, none⟩ = some (.int .i64 0) := (blk_cell BK111.out 2).trans rfl; have hcz6_3 : w3.cell? ⟨gb111, 3, none⟩ = some (.int .i64 0) := (blk_cell BK111.out 3).trans rfl; have hcz6_4 : w3.cell? ⟨gb111, 4, none⟩ = some (.int .i64 0) := (blk_cell BK111.out 4).trans rfl; have hcz6_5 : w3.cell? ⟨gb111, 5, none⟩ = some (.int .i64 0) := (blk_cell BK111.out 5).trans rfl; have hcz6_6 : w3.cell? ⟨gb111, 6, none⟩ = some (.int .i64 0) := (blk_cell BK111.out 6).trans rfl; have hcz6_7 : w3.cell? ⟨gb111, 7, none⟩ = some (.int .i64 0) := (blk_cell BK111.out 7).trans rfl; have hcz6_8 : w3.cell? ⟨gb111, 8, none⟩ = some (.int .i64 0) := (blk_cell BK111.out 8).trans rfl; have hcz6_9 : w3.cell? ⟨gb111, 9, none⟩ = some (.int .i64 0) := (blk_cell BK111.out 9).trans rfl; have hcz6_10 : w3.cell? ⟨gb111, 10, none⟩ = some (.bool false) := (blk_cell BK111.out 10).trans rfl; have hcz6_11 : w3.cell? ⟨gb111, 11, none⟩ = some (.int .i64 0) := (blk_cell BK111.out 11).trans rfl; have hfz6_0 := blk_frozen BK111.out 0; have hfz6_1 := blk_frozen BK111.out 1; have hfz6_2 := blk_frozen BK111.out 2; have hfz6_3 := blk_frozen BK111.out 3; have hfz6_4 := blk_frozen BK111.out 4; have hfz6_5 := blk_frozen BK111.out 5; have hfz6_6 := blk_frozen BK111.out 6; have hfz6_7 := blk_frozen BK111.out 7; have hfz6_8 := blk_frozen BK111.out 8; have hfz6_9 := blk_frozen BK111.out 9; have hfz6_10 := blk_frozen BK111.out 10; have hfz6_11 := blk_frozen BK111.out 11))
 refine bodyPost_ret (results_cell_row rfl _ _ gb111 54 #[.int .i64 a0_0, .int .i64 a0_1, .int .i64 a0_2, .int .i64 a0_3, .int .i64 a0_4, .int .i64 a0_5, .int .i64 a0_6, .int .i64 a0_7, .int .i64 a0_8, .int .i64 a0_9, .bool a0_10, .int .i64 a0_11] (0, 0) _ rfl (by (with_reducible repeat (first | refine blk_drewN ?_ _ | refine blk_drew ?_ | refine blk_alloc ?_ _)); refine blk_put (cs := #[.int .i64 a0_0, .int .i64 a0_1, .int .i64 a0_2, .int .i64 a0_3, .int .i64 a0_4, .int .i64 a0_5, .int .i64 a0_6, .int .i64 a0_7, .int .i64 a0_8, .int .i64 a0_9, .bool a0_10, .int .i64 0]) ?_ 11 _ rfl; (with_reducible repeat (first | refine blk_drewN ?_ _ | refine blk_drew ?_ | refine blk_alloc ?_ _)); refine blk_put (cs := #[.int .i64 a0_0, .int .i64 a0_1, .int .i64 a0_2, .int .i64 a0_3, .int .i64 a0_4, .int .i64 a0_5, .int .i64 a0_6, .int .i64 a0_7, .int .i64 a0_8, .int .i64 a0_9, .bool false, .int .i64 0]) ?_ 10 _ rfl; (with_reducible repeat (first | refine blk_drewN ?_ _ | refine blk_drew ?_ | refine blk_alloc ?_ _)); refine blk_put (cs := #[.int .i64 a0_0, .int .i64 a0_1, .int .i64 a0_2, .int .i64 a0_3, .int .i64 a0_4, .int .i64 a0_5, .int .i64 a0_6, .int .i64 a0_7, .int .i64 a0_8, .int .i64 0, .bool false, .int .i64 0]) ?_ 9 _ rfl; (with_reducible repeat (first | refine blk_drewN ?_ _ | refine blk_drew ?_ | refine blk_alloc ?_ _)); refine blk_put (cs := #[.int .i64 a0_0, .int .i64 a0_1, .int .i64 a0_2, .int .i64 a0_3, .int .i64 a0_4, .int .i64 a0_5, .int .i64 a0_6, .int .i64 a0_7, .int .i64 0, .int .i64 0, .bool false, .int .i64 0]) ?_ 8 _ rfl; (with_reducible repeat (first | refine blk_drewN ?_ _ | refine blk_drew ?_ | refine blk_alloc ?_ _)); refine blk_put (cs := #[.int .i64 a0_0, .int .i64 a0_1, .int .i64 a0_2, .int .i64 a0_3, .int .i64 a0_4, .int .i64 a0_5, .int .i64 a0_6, .int .i64 0, .int .i64 0, .int .i64 0, .bool false, .int .i64 0]) ?_ 7 _ rfl; (with_reducible repeat (first | refine blk_drewN ?_ _ | refine blk_drew ?_ | refine blk_alloc ?_ _)); refine blk_put (cs := #[.int .i64 a0_0, .int .i64 a0_1, .int .i64 a0_2, .int .i64 a0_3, .int .i64 a0_4, .int .i64 a0_5, .int .i64 0, .int .i64 0, .int .i64 0, .int .i64 0, .bool false, .int .i64 0]) ?_ 6 _ rfl; (with_reducible repeat (first | refine blk_drewN ?_ _ | refine blk_drew ?_ | refine blk_alloc ?_ _)); refine blk_put (cs := #[.int .i64 a0_0, .int .i64 a0_1, .int .i64 a0_2, .int .i64 a0_3, .int .i64 a0_4, .int .i64 0, .int .i64 0, .int .i64 0, .int .i64 0, .int .i64 0, .bool false, .int .i64 0]) ?_ 5 _ rfl; (with_reducible repeat (first | refine blk_drewN ?_ _ | refine blk_drew ?_ | refine blk_alloc ?_ _)); refine blk_put (cs := #[.int .i64 a0_0, .int .i64 a0_1, .int .i64 a0_2, .int .i64 a0_3, .int .i64 0, .int .i64 0, .int .i64 0, .int .i64 0, .int .i64 0, .int .i64 0, .bool false, .int .i64 0]) ?_ 4 _ rfl; (with_reducible repeat (first | refine blk_drewN ?_ _ | refine blk_drew ?_ | refine blk_alloc ?_ _)); refine blk_put (cs := #[.int .i64 a0_0, .int .i64 a0_1, .int .i64 a0_2, .int .i64 0, .int .i64 0, .int .i64 0, .int .i64 0, .int .i64 0, .int .i64 0, .int .i64 0, .bool false, .int .i64 0]) ?_ 3 _ rfl; (with_reducible repeat (first | refine blk_drewN ?_ _ | refine blk_drew ?_ | refine blk_alloc ?_ _)); refine blk_put (cs := #[.int .i64 a0_0, .int .i64 a0_1, .int .i64 0, .int .i64 0, .int .i64 0, .int .i64 0, .int .i64 0, .int .i64 0, .int .i64 0, .int .i64 0, .bool false, .int .i64 0]) ?_ 2 _ rfl; (with_reducible repeat (first | refine blk_drewN ?_ _ | refine blk_drew ?_ | refine blk_alloc ?_ _)); refine blk_put (cs := #[.int .i64 a0_0, .int .i64 0, .int .i64 0, .int .i64 0, .int .i64 0, .int .i64 0, .int .i64 0, .int .i64 0, .int .i64 0, .int .i64 0, .bool false, .int .i64 0]) ?_ 1 _ rfl; (with_reducible repeat (first | refine blk_drewN ?_ _ | refine blk_drew ?_ | refine blk_alloc ?_ _)); refine blk_put (cs := #[.int .i64 0, .int .i64 0, .int .i64 0, .int .i64 0, .int .i64 0, .int .i64 0, .int .i64 0, .int .i64 0, .int .i64 0, .int .i64 0, .bool false, .int .i64 0]) ?_ 0 _ rfl; (with_reducible repeat (first | refine blk_drewN ?_ _ | refine blk_drew ?_ | refine blk_alloc ?_ _)); exact BK111.out) Try.underlying54 rfl (by kernel_rfl)) rfl ?_
 exact ⟨by first | rfl | (simp [errW_none, errW_some] <;> rfl) | (simp [*, errW_none, errW_some] <;> rfl), by repeat (first | (with_reducible first | exact HB.out | apply below_alloc | apply pw_below_drewN | apply below_drew1 | refine below_set ?_ GE110.out | refine below_set ?_ GE111.out) | exact HB.out)⟩
def knelllaw11_Ofs.l0 : Nat → List (S54) → List (S50) → Int → Int → Option ((List (S54)))
 | 0, _, _, _, _ => none
 | k + 1, x3, x6, x7, x8 => if x8 < x7 then (if 0 ≤ x8 then (if x8 < (x6.length : Int) then ((knelllaw11_Of.f ((rd_T50 x6 x8).f0) ((rd_T50 x6 x8).f1) ((rd_T50 x6 x8).f2) ((rd_T50 x6 x8).f3.f0) ((rd_T50 x6 x8).f3.f1) ((rd_T50 x6 x8).f4.f0) ((rd_T50 x6 x8).f4.f1) ((rd_T50 x6 x8).f5) ((rd_T50 x6 x8).f6) ((rd_T50 x6 x8).f7) ((rd_T50 x6 x8).f8) ((rd_T50 x6 x8).f9)).bind fun bt114 => (if x3.length < 1466015503701 then (knelllaw11_Ofs.l0 k (x3 ++ [(⟨bt114.1, bt114.2.1, bt114.2.2.1, (⟨bt114.2.2.2.1, bt114.2.2.2.2.1⟩ : S34), (⟨bt114.2.2.2.2.2.1, bt114.2.2.2.2.2.2.1⟩ : S34), bt114.2.2.2.2.2.2.2.1, bt114.2.2.2.2.2.2.2.2.1, bt114.2.2.2.2.2.2.2.2.2.1, bt114.2.2.2.2.2.2.2.2.2.2.1, bt114.2.2.2.2.2.2.2.2.2.2.2⟩ : S54)]) x6 x7 (wrap64 (x8 + 1))) else (none))) else (none)) else (none)) else (some x3)
def knelllaw11_Ofs.f (k : Nat) (l0 : List (S50)) : Option ((List (S54))) := knelllaw11_Ofs.l0 k ([] : List (S54)) l0 (l0.length : Int) 0
theorem knelllaw11_Ofs.calls (k : Nat) (A0 : Option Addr) (c0 : Nat) (l0 : List (S50)) (r : List (S54)) (w : World) (hr0 : Kd.C k50 w A0 l0.length l0) (hc0 : l0.length ≤ c0) (h : knelllaw11_Ofs.f k l0 = some r) :
  Calls Try.prog 16 #[.slice A0 l0.length c0] w fun e w' => ∃ v0_ : Value, e = .returned (v0_) ∧ Kd.R k54 54 w' w.heap.size (fun _ => True) v0_ r ∧ Below w.heap.size w w' := by
 have hu50 := Try.underlying50
 have HR0 := Aside0.mk hr0
 have HC0 := Aside0.mk hc0
 clear hr0 hc0
 have HB := Aside0.mk (Below.refl w.heap.size w)
 have H : (knelllaw11_Ofs.l0 k ([] : List (S54)) l0 (l0.length : Int) 0) = some r := h
 clear h
 have H' := Aside0.mk H
 clear H
 go_enter Try.func16, Try.ntmps16
 go_wp2
 go_loopg [3, 8] k (fun kq v3 v8 w' => ∃ (x3_1 : List (S54)) (x8_1 : Int), v8 = .int .i64 x8_1 ∧ Aside0 (knelllaw11_Ofs.l0 kq x3_1 l0 (l0.length : Int) x8_1 = some r) ∧ Aside0 (kq ≤ k) ∧ Aside0 (Kd.R k54 54 w' w.heap.size (fun _ => True) v3 x3_1) ∧ Aside0 (Below w.heap.size w w'))
 case atStart => exact ⟨(([] : List (S54))), (0), (by first | rfl | (simp; done) | (simp [*]; done)), H', ⟨Nat.le_refl _⟩, ⟨by first | exact Kd.R_nil _ _ _ _ _ | exact Kd.N_nil _ _ _ _ _ | exact Kd.V_nil _ _ _ _ _ | exact Kd.Q_nil _ _ _ _ _ | exact Kd.S_nil _ _ _ _ _⟩, ⟨by repeat (first | (with_reducible first | exact HB.out | apply below_alloc | apply pw_below_drewN | apply below_drew1) | exact HB.out)⟩⟩
 case round =>
  clear H'
  try clear c1
  obtain ⟨x3_1, x8_1, rfl, HA, HK1, HO_3, HB⟩ := hrel
  cases gk with
  | zero => exact absurd HA.out (by simp [knelllaw11_Ofs.l0])
  | succ k1 =>
   have H := HA.out
   clear HA
   simp only [knelllaw11_Ofs.l0] at H
   by_cases c2 : x8_1 < (l0.length : Int)
   ·rw [if_pos c2] at H
    have c2b0 : decide (x8_1 < (l0.length : Int)) = true := decide_eq_true c2
    clear c2
    by_cases c3 : 0 ≤ x8_1
    ·rw [if_pos c3] at H
     have c3b0 : decide (0 ≤ x8_1) = true := decide_eq_true c3
     clear c3
     by_cases c4 : x8_1 < (l0.length : Int)
     ·rw [if_pos c4] at H
      have c4b0 : decide (x8_1 < (l0.length : Int)) = true := decide_eq_true c4
      clear c4
      replace H := Option.bind_eq_some_iff.mp H
      obtain ⟨⟨t114, t115, t116, t117, t118, t119, t120, t121, t122, t123, t124, t125⟩, A50, H⟩ := H
      replace H : (if x3_1.length < 1466015503701 then (knelllaw11_Ofs.l0 k1 (x3_1 ++ [(⟨t114, t115, t116, (⟨t117, t118⟩ : S34), (⟨t119, t120⟩ : S34), t121, t122, t123, t124, t125⟩ : S54)]) l0 (l0.length : Int) (wrap64 (x8_1 + 1))) else (none)) = some r := H
      have A5 := Aside0.mk A50
      clear A50
      by_cases c6 : x3_1.length < 1466015503701
      ·rw [if_pos c6] at H
       have LMc6 := Aside0.mk c6
       clear c6
       obtain ⟨y126, hy126⟩ : ∃ y_ : List (S54), y_ = (x3_1 ++ [(⟨t114, t115, t116, (⟨t117, t118⟩ : S34), (⟨t119, t120⟩ : S34), t121, t122, t123, t124, t125⟩ : S54)]) := ⟨_, rfl⟩
       replace H : (knelllaw11_Ofs.l0 k1 y126 l0 (l0.length : Int) (wrap64 (x8_1 + 1))) = some r := by first | (rw [hy126]; with_reducible exact H) | (have H2_ := (Option.bind_some _ _).symm.trans H; rw [hy126]; with_reducible exact H2_) | (have H2_ := (Option.bind_some _ _).symm.trans H; with_reducible exact H2_) | with_reducible exact H | (rw [hy126]; exact H) | exact H
       have Ny126 := Aside0.mk hy126
       clear hy126
       have H' := Aside0.mk H
       clear H
       have p112 : 0 ≤ (x8_1 : Int) := of_decide_eq_true (by first | (with_reducible assumption) | assumption)
       have q112 : x8_1 < (l0.length : Int) := of_decide_eq_true (by first | (with_reducible assumption) | assumption)
       obtain ⟨ad112, e112, hx112_0, hx112_1, hx112_2, hx112_3, hx112_4, hx112_5, hx112_6, hx112_7, hx112_8, hx112_9, hx112_10, hx112_11⟩ := at_T50 HR0.out x8_1 p112 q112
       cases e112
       replace hx112_0 := (HB.out.cell (World.block_lt_of_cell? w _ hx112_0)).trans hx112_0
       replace hx112_1 := (HB.out.cell (World.block_lt_of_cell? w _ hx112_1)).trans hx112_1
       replace hx112_2 := (HB.out.cell (World.block_lt_of_cell? w _ hx112_2)).trans hx112_2
       replace hx112_3 := (HB.out.cell (World.block_lt_of_cell? w _ hx112_3)).trans hx112_3
       replace hx112_4 := (HB.out.cell (World.block_lt_of_cell? w _ hx112_4)).trans hx112_4
       replace hx112_5 := (HB.out.cell (World.block_lt_of_cell? w _ hx112_5)).trans hx112_5
       replace hx112_6 := (HB.out.cell (World.block_lt_of_cell? w _ hx112_6)).trans hx112_6
       replace hx112_7 := (HB.out.cell (World.block_lt_of_cell? w _ hx112_7)).trans hx112_7
       replace hx112_8 := (HB.out.cell (World.block_lt_of_cell? w _ hx112_8)).trans hx112_8
       replace hx112_9 := (HB.out.cell (World.block_lt_of_cell? w _ hx112_9)).trans hx112_9
       replace hx112_10 := (HB.out.cell (World.block_lt_of_cell? w _ hx112_10)).trans hx112_10
       replace hx112_11 := (HB.out.cell (World.block_lt_of_cell? w _ hx112_11)).trans hx112_11
       replace p112 := eq_true p112
       replace q112 := eq_true q112
       go_wp2_with (first | ((with_reducible refine gate_dst (N := 5) rfl ?_); refine box_event ?hg (N := 5) ?hd (cs := #[.int .i64 0, .int .i64 0, .int .i64 0, .int .i64 0, .int .i64 0, .int .i64 0, .int .i64 0, .int .i64 0, .int .i64 0, .int .i64 0, .bool false, .int .i64 0]) (t := 50) ?hr ?_; (case hd => rfl); (case hg => rfl); (case hr => first | (go_simp; done) | (go_simp; rfl)); intro gb113 hg w7 hbox hb; have n0_ := Aside0.mk (Kd.R_below (by (with_reducible repeat (first | apply Kd.R_alloc | apply Kd.R_drewN | apply Kd.R_drew)); exact HO_3.out) hb); have n1_ := Aside0.mk (below_step (by repeat (first | (with_reducible first | exact HB.out | apply below_alloc | apply pw_below_drewN | apply below_drew1) | exact HB.out)) hb); have n2_ := Aside0.mk (hbox); have n3_ := Aside0.mk ((by rw [hg]; exact (below_size (by repeat (first | (with_reducible first | exact HB.out | apply below_alloc | apply pw_below_drewN | apply below_drew1) | exact HB.out))) : w.heap.size ≤ gb113)); have n4_ := Aside0.mk ((by rw [hg]; exact (below_size (by repeat (first | (with_reducible first | exact HB.out | apply below_alloc | apply pw_below_drewN | apply below_drew1) | exact HB.out))) : w.heap.size ≤ gb113)); clear HO_3; clear HB; have HO_3 := n0_; have HB := n1_; have BK113 := n2_; have GW113 := n3_; have GE113 := n4_; clear n0_ n1_ n2_ n3_ n4_; clear hb hbox hg; have hcz8_0 : w7.cell? ⟨gb113, 0, none⟩ = some (.int .i64 0) := (blk_cell BK113.out 0).trans rfl; have hcz8_1 : w7.cell? ⟨gb113, 1, none⟩ = some (.int .i64 0) := (blk_cell BK113.out 1).trans rfl; have hcz8_2 : w7.cell? ⟨gb113, 2, none⟩ = some (.int .i64 0) := (blk_cell BK113.out 2).trans rfl; have hcz8_3 : w7.cell? ⟨gb113, 3, none⟩ = some (.int .i64 0) := (blk_cell BK113.out 3).trans rfl; have hcz8_4 : w7.cell? ⟨gb113, 4, none⟩ = some (.int .i64 0) := (blk_cell BK113.out 4).trans rfl; have hcz8_5 : w7.cell? ⟨gb113, 5, none⟩ = some (.int .i64 0) := (blk_cell BK113.out 5).trans rfl; have hcz8_6 : w7.cell? ⟨gb113, 6, none⟩ = some (.int .i64 0) := (blk_cell BK113.out 6).trans rfl; have hcz8_7 : w7.cell? ⟨gb113, 7, none⟩ = some (.int .i64 0) := (blk_cell BK113.out 7).trans rfl; have hcz8_8 : w7.cell? ⟨gb113, 8, none⟩ = some (.int .i64 0) := (blk_cell BK113.out 8).trans rfl; have hcz8_9 : w7.cell? ⟨gb113, 9, none⟩ = some (.int .i64 0) := (blk_cell BK113.out 9).trans rfl; have hcz8_10 : w7.cell? ⟨gb113, 10, none⟩ = some (.bool false) := (blk_cell BK113.out 10).trans rfl; have hcz8_11 : w7.cell? ⟨gb113, 11, none⟩ = some (.int .i64 0) := (blk_cell BK113.out 11).trans rfl; have hfz8_0 := blk_frozen BK113.out 0; have hfz8_1 := blk_frozen BK113.out 1; have hfz8_2 := blk_frozen BK113.out 2; have hfz8_3 := blk_frozen BK113.out 3; have hfz8_4 := blk_frozen BK113.out 4; have hfz8_5 := blk_frozen BK113.out 5; have hfz8_6 := blk_frozen BK113.out 6; have hfz8_7 := blk_frozen BK113.out 7; have hfz8_8 := blk_frozen BK113.out 8; have hfz8_9 := blk_frozen BK113.out 9; have hfz8_10 := blk_frozen BK113.out 10; have hfz8_11 := blk_frozen BK113.out 11) | ((with_reducible refine gate_callee (f := 30) rfl ?_); refine goesL_ (some 14) rfl rfl Try.func30 (by kernel_rfl) rfl #[.agg #[.int .i64 ((rd_T50 l0 x8_1).f0), .int .i64 ((rd_T50 l0 x8_1).f1), .int .i64 ((rd_T50 l0 x8_1).f2), .int .i64 ((rd_T50 l0 x8_1).f3.f0), .int .i64 ((rd_T50 l0 x8_1).f3.f1), .int .i64 ((rd_T50 l0 x8_1).f4.f0), .int .i64 ((rd_T50 l0 x8_1).f4.f1), .int .i64 ((rd_T50 l0 x8_1).f5), .int .i64 ((rd_T50 l0 x8_1).f6), .int .i64 ((rd_T50 l0 x8_1).f7), .bool ((rd_T50 l0 x8_1).f8), .int .i64 ((rd_T50 l0 x8_1).f9)]] rfl (by (try simp only [List.map_toArray, List.map_cons, List.map_nil]); first | done | rfl | (simp only [List.length_drop, List.length_take]; rfl)) ?_; (with_reducible refine (knelllaw11_Of.calls ((rd_T50 l0 x8_1).f0) ((rd_T50 l0 x8_1).f1) ((rd_T50 l0 x8_1).f2) ((rd_T50 l0 x8_1).f3.f0) ((rd_T50 l0 x8_1).f3.f1) ((rd_T50 l0 x8_1).f4.f0) ((rd_T50 l0 x8_1).f4.f1) ((rd_T50 l0 x8_1).f5) ((rd_T50 l0 x8_1).f6) ((rd_T50 l0 x8_1).f7) ((rd_T50 l0 x8_1).f8) ((rd_T50 l0 x8_1).f9) t114 t115 t116 t117 t118 t119 t120 t121 t122 t123 t124 t125 _ A5.out).mono ?_); rintro e w9 ⟨rfl, hb⟩; refine ⟨_, rfl, ?_⟩; have n0_ := Aside0.mk (Kd.R_below (by (with_reducible repeat (first | apply Kd.R_alloc | apply Kd.R_drewN | apply Kd.R_drew)); exact (Kd.R_mono (Kd.R_far (p := ⟨gb113, 11, none⟩) (Kd.R_far (p := ⟨gb113, 10, none⟩) (Kd.R_far (p := ⟨gb113, 9, none⟩) (Kd.R_far (p := ⟨gb113, 8, none⟩) (Kd.R_far (p := ⟨gb113, 7, none⟩) (Kd.R_far (p := ⟨gb113, 6, none⟩) (Kd.R_far (p := ⟨gb113, 5, none⟩) (Kd.R_far (p := ⟨gb113, 4, none⟩) (Kd.R_far (p := ⟨gb113, 3, none⟩) (Kd.R_far (p := ⟨gb113, 2, none⟩) (Kd.R_far (p := ⟨gb113, 1, none⟩) (Kd.R_far (p := ⟨gb113, 0, none⟩) (Kd.R_types HO_3.out BK113.out (by decide)) (fun _ hk => hk.2) (.int .i64 ((rd_T50 l0 x8_1).f0))) (fun _ hk => hk.2) (.int .i64 ((rd_T50 l0 x8_1).f1))) (fun _ hk => hk.2) (.int .i64 ((rd_T50 l0 x8_1).f2))) (fun _ hk => hk.2) (.int .i64 ((rd_T50 l0 x8_1).f3.f0))) (fun _ hk => hk.2) (.int .i64 ((rd_T50 l0 x8_1).f3.f1))) (fun _ hk => hk.2) (.int .i64 ((rd_T50 l0 x8_1).f4.f0))) (fun _ hk => hk.2) (.int .i64 ((rd_T50 l0 x8_1).f4.f1))) (fun _ hk => hk.2) (.int .i64 ((rd_T50 l0 x8_1).f5))) (fun _ hk => hk.2) (.int .i64 ((rd_T50 l0 x8_1).f6))) (fun _ hk => hk.2) (.int .i64 ((rd_T50 l0 x8_1).f7))) (fun _ hk => hk.2) (.bool ((rd_T50 l0 x8_1).f8))) (fun _ hk => hk.2) (.int .i64 ((rd_T50 l0 x8_1).f9))) (fun _ h_ => h_.1))) hb); have n1_ := Aside0.mk (blk_below (g := gb113) (o := .cells #[.int .i64 ((rd_T50 l0 x8_1).f0), .int .i64 ((rd_T50 l0 x8_1).f1), .int .i64 ((rd_T50 l0 x8_1).f2), .int .i64 ((rd_T50 l0 x8_1).f3.f0), .int .i64 ((rd_T50 l0 x8_1).f3.f1), .int .i64 ((rd_T50 l0 x8_1).f4.f0), .int .i64 ((rd_T50 l0 x8_1).f4.f1), .int .i64 ((rd_T50 l0 x8_1).f5), .int .i64 ((rd_T50 l0 x8_1).f6), .int .i64 ((rd_T50 l0 x8_1).f7), .bool ((rd_T50 l0 x8_1).f8), .int .i64 ((rd_T50 l0 x8_1).f9)] 50 (0, 0)) (by (with_reducible repeat (first | refine blk_drewN ?_ _ | refine blk_drew ?_ | refine blk_alloc ?_ _)); refine blk_put (cs := #[.int .i64 ((rd_T50 l0 x8_1).f0), .int .i64 ((rd_T50 l0 x8_1).f1), .int .i64 ((rd_T50 l0 x8_1).f2), .int .i64 ((rd_T50 l0 x8_1).f3.f0), .int .i64 ((rd_T50 l0 x8_1).f3.f1), .int .i64 ((rd_T50 l0 x8_1).f4.f0), .int .i64 ((rd_T50 l0 x8_1).f4.f1), .int .i64 ((rd_T50 l0 x8_1).f5), .int .i64 ((rd_T50 l0 x8_1).f6), .int .i64 ((rd_T50 l0 x8_1).f7), .bool ((rd_T50 l0 x8_1).f8), .int .i64 0]) ?_ 11 _ rfl; (with_reducible repeat (first | refine blk_drewN ?_ _ | refine blk_drew ?_ | refine blk_alloc ?_ _)); refine blk_put (cs := #[.int .i64 ((rd_T50 l0 x8_1).f0), .int .i64 ((rd_T50 l0 x8_1).f1), .int .i64 ((rd_T50 l0 x8_1).f2), .int .i64 ((rd_T50 l0 x8_1).f3.f0), .int .i64 ((rd_T50 l0 x8_1).f3.f1), .int .i64 ((rd_T50 l0 x8_1).f4.f0), .int .i64 ((rd_T50 l0 x8_1).f4.f1), .int .i64 ((rd_T50 l0 x8_1).f5), .int .i64 ((rd_T50 l0 x8_1).f6), .int .i64 ((rd_T50 l0 x8_1).f7), .bool false, .int .i64 0]) ?_ 10 _ rfl; (with_reducible repeat (first | refine blk_drewN ?_ _ | refine blk_drew ?_ | refine blk_alloc ?_ _)); refine blk_put (cs := #[.int .i64 ((rd_T50 l0 x8_1).f0), .int .i64 ((rd_T50 l0 x8_1).f1), .int .i64 ((rd_T50 l0 x8_1).f2), .int .i64 ((rd_T50 l0 x8_1).f3.f0), .int .i64 ((rd_T50 l0 x8_1).f3.f1), .int .i64 ((rd_T50 l0 x8_1).f4.f0), .int .i64 ((rd_T50 l0 x8_1).f4.f1), .int .i64 ((rd_T50 l0 x8_1).f5), .int .i64 ((rd_T50 l0 x8_1).f6), .int .i64 0, .bool false, .int .i64 0]) ?_ 9 _ rfl; (with_reducible repeat (first | refine blk_drewN ?_ _ | refine blk_drew ?_ | refine blk_alloc ?_ _)); refine blk_put (cs := #[.int .i64 ((rd_T50 l0 x8_1).f0), .int .i64 ((rd_T50 l0 x8_1).f1), .int .i64 ((rd_T50 l0 x8_1).f2), .int .i64 ((rd_T50 l0 x8_1).f3.f0), .int .i64 ((rd_T50 l0 x8_1).f3.f1), .int .i64 ((rd_T50 l0 x8_1).f4.f0), .int .i64 ((rd_T50 l0 x8_1).f4.f1), .int .i64 ((rd_T50 l0 x8_1).f5), .int .i64 0, .int .i64 0, .bool false, .int .i64 0]) ?_ 8 _ rfl; (with_reducible repeat (first | refine blk_drewN ?_ _ | refine blk_drew ?_ | refine blk_alloc ?_ _)); refine blk_put (cs := #[.int .i64 ((rd_T50 l0 x8_1).f0), .int .i64 ((rd_T50 l0 x8_1).f1), .int .i64 ((rd_T50 l0 x8_1).f2), .int .i64 ((rd_T50 l0 x8_1).f3.f0), .int .i64 ((rd_T50 l0 x8_1).f3.f1), .int .i64 ((rd_T50 l0 x8_1).f4.f0), .int .i64 ((rd_T50 l0 x8_1).f4.f1), .int .i64 0, .int .i64 0, .int .i64 0, .bool false, .int .i64 0]) ?_ 7 _ rfl; (with_reducible repeat (first | refine blk_drewN ?_ _ | refine blk_drew ?_ | refine blk_alloc ?_ _)); refine blk_put (cs := #[.int .i64 ((rd_T50 l0 x8_1).f0), .int .i64 ((rd_T50 l0 x8_1).f1), .int .i64 ((rd_T50 l0 x8_1).f2), .int .i64 ((rd_T50 l0 x8_1).f3.f0), .int .i64 ((rd_T50 l0 x8_1).f3.f1), .int .i64 ((rd_T50 l0 x8_1).f4.f0), .int .i64 0, .int .i64 0, .int .i64 0, .int .i64 0, .bool false, .int .i64 0]) ?_ 6 _ rfl; (with_reducible repeat (first | refine blk_drewN ?_ _ | refine blk_drew ?_ | refine blk_alloc ?_ _)); refine blk_put (cs := #[.int .i64 ((rd_T50 l0 x8_1).f0), .int .i64 ((rd_T50 l0 x8_1).f1), .int .i64 ((rd_T50 l0 x8_1).f2), .int .i64 ((rd_T50 l0 x8_1).f3.f0), .int .i64 ((rd_T50 l0 x8_1).f3.f1), .int .i64 0, .int .i64 0, .int .i64 0, .int .i64 0, .int .i64 0, .bool false, .int .i64 0]) ?_ 5 _ rfl; (with_reducible repeat (first | refine blk_drewN ?_ _ | refine blk_drew ?_ | refine blk_alloc ?_ _)); refine blk_put (cs := #[.int .i64 ((rd_T50 l0 x8_1).f0), .int .i64 ((rd_T50 l0 x8_1).f1), .int .i64 ((rd_T50 l0 x8_1).f2), .int .i64 ((rd_T50 l0 x8_1).f3.f0), .int .i64 0, .int .i64 0, .int .i64 0, .int .i64 0, .int .i64 0, .int .i64 0, .bool false, .int .i64 0]) ?_ 4 _ rfl; (with_reducible repeat (first | refine blk_drewN ?_ _ | refine blk_drew ?_ | refine blk_alloc ?_ _)); refine blk_put (cs := #[.int .i64 ((rd_T50 l0 x8_1).f0), .int .i64 ((rd_T50 l0 x8_1).f1), .int .i64 ((rd_T50 l0 x8_1).f2), .int .i64 0, .int .i64 0, .int .i64 0, .int .i64 0, .int .i64 0, .int .i64 0, .int .i64 0, .bool false, .int .i64 0]) ?_ 3 _ rfl; (with_reducible repeat (first | refine blk_drewN ?_ _ | refine blk_drew ?_ | refine blk_alloc ?_ _)); refine blk_put (cs := #[.int .i64 ((rd_T50 l0 x8_1).f0), .int .i64 ((rd_T50 l0 x8_1).f1), .int .i64 0, .int .i64 0, .int .i64 0, .int .i64 0, .int .i64 0, .int .i64 0, .int .i64 0, .int .i64 0, .bool false, .int .i64 0]) ?_ 2 _ rfl; (with_reducible repeat (first | refine blk_drewN ?_ _ | refine blk_drew ?_ | refine blk_alloc ?_ _)); refine blk_put (cs := #[.int .i64 ((rd_T50 l0 x8_1).f0), .int .i64 0, .int .i64 0, .int .i64 0, .int .i64 0, .int .i64 0, .int .i64 0, .int .i64 0, .int .i64 0, .int .i64 0, .bool false, .int .i64 0]) ?_ 1 _ rfl; (with_reducible repeat (first | refine blk_drewN ?_ _ | refine blk_drew ?_ | refine blk_alloc ?_ _)); refine blk_put (cs := #[.int .i64 0, .int .i64 0, .int .i64 0, .int .i64 0, .int .i64 0, .int .i64 0, .int .i64 0, .int .i64 0, .int .i64 0, .int .i64 0, .bool false, .int .i64 0]) ?_ 0 _ rfl; (with_reducible repeat (first | refine blk_drewN ?_ _ | refine blk_drew ?_ | refine blk_alloc ?_ _)); exact BK113.out) hb); have n2_ := Aside0.mk (below_step (by repeat (first | (with_reducible first | exact HB.out | apply below_alloc | apply pw_below_drewN | apply below_drew1 | refine below_set ?_ GE113.out) | exact HB.out)) hb); clear HO_3; clear BK113; clear HB; have HO_3 := n0_; have BK113 := n1_; have HB := n2_; clear n0_ n1_ n2_; (try clear hb); (try clear hb2); (try clear hk); (try clear hi)) | ((with_reducible refine gate_builtin (b := .append) (xs := #[.tmp 12, .tmp 15]) rfl ?_); at_builtin; refine Kd.R_append k54 (w0 := w) w.heap.size rfl (.tmp 12) (.tmp 15) 24 54 (.agg #[(.int .i64 0), (.int .i64 0), (.int .i64 0), (.int .i64 0), (.int .i64 0), (.int .i64 0), (.int .i64 0), (.int .i64 0), (.int .i64 0), (.int .i64 0), (.bool false), (.int .i64 0)]) 96 rfl Try.underlying24 info54 rfl (by decide) (by omega) u3 x3_1 (⟨t114, t115, t116, (⟨t117, t118⟩ : S34), (⟨t119, t120⟩ : S34), t121, t122, t123, t124, t125⟩ : S54) [.int .i64 t114, .int .i64 t115, .int .i64 t116, .int .i64 t117, .int .i64 t118, .int .i64 t119, .int .i64 t120, .int .i64 t121, .int .i64 t122, .int .i64 t123, .bool t124, .int .i64 t125] (fun _ => True) (fun _ => False) rfl rfl ?aP (fun _ hk => hk.elim) ?aF ?aO ?aB ?aS ?aL ?_; (case aP => exact k54_mkM _ _ _ (⟨t114, t115, t116, (⟨t117, t118⟩ : S34), (⟨t119, t120⟩ : S34), t121, t122, t123, t124, t125⟩ : S54)); (case aB => exact (by repeat (first | (with_reducible first | exact HB.out | apply below_alloc | apply pw_below_drewN | apply below_drew1 | refine below_set ?_ GE113.out) | exact HB.out))); (case aF => exact (fun _ _ => trivial)); (case aO => exact (by (with_reducible repeat (first | apply Kd.R_alloc | apply Kd.R_drewN | apply Kd.R_drew)); exact HO_3.out)); (case aS => exact (below_size (by repeat (first | (with_reducible first | exact HB.out | apply below_alloc | apply pw_below_drewN | apply below_drew1 | refine below_set ?_ GE113.out) | exact HB.out)))); (case aL => have := LMc6.out; omega); intro v127 w10 ho hb hg hat; rw [← Ny126.out] at ho; have n0_ := Aside0.mk (blk_grown (g := gb113) (o := .cells #[.int .i64 ((rd_T50 l0 x8_1).f0), .int .i64 ((rd_T50 l0 x8_1).f1), .int .i64 ((rd_T50 l0 x8_1).f2), .int .i64 ((rd_T50 l0 x8_1).f3.f0), .int .i64 ((rd_T50 l0 x8_1).f3.f1), .int .i64 ((rd_T50 l0 x8_1).f4.f0), .int .i64 ((rd_T50 l0 x8_1).f4.f1), .int .i64 ((rd_T50 l0 x8_1).f5), .int .i64 ((rd_T50 l0 x8_1).f6), .int .i64 ((rd_T50 l0 x8_1).f7), .bool ((rd_T50 l0 x8_1).f8), .int .i64 ((rd_T50 l0 x8_1).f9)] 50 (0, 0)) (by (with_reducible repeat (first | refine blk_drewN ?_ _ | refine blk_drew ?_ | refine blk_alloc ?_ _)); exact BK113.out) hg (Kd.R_ne HO_3.out BK113.out (by decide))); have n1_ := Aside0.mk (hb); have n2_ := Aside0.mk (ho); clear BK113; clear HB; clear HO_3; have BK113 := n0_; have HB := n1_; have HO128 := n2_; clear n0_ n1_ n2_; clear ho hb hg hat))
       go_roundg k1
       case measure => have := HK1.out; omega
       case rel => exact ⟨(y126), (wrap64 (x8_1 + 1)), (by first | rfl | (simp; done) | (simp [*]; done)), H', ⟨by have := HK1.out; omega⟩, ⟨by (with_reducible repeat (first | apply Kd.R_alloc | apply Kd.R_drewN | apply Kd.R_drew)); exact HO128.out⟩, ⟨by repeat (first | (with_reducible first | exact HB.out | apply below_alloc | apply pw_below_drewN | apply below_drew1 | refine below_set ?_ GE113.out) | exact HB.out)⟩⟩
      ·rw [if_neg c6] at H
       exact absurd H (by simp)
     ·rw [if_neg c4] at H
      exact absurd H (by simp)
    ·rw [if_neg c3] at H
     exact absurd H (by simp)
   ·rw [if_neg c2] at H
    have c2b0 : decide (x8_1 < (l0.length : Int)) = false := decide_eq_false c2
    clear c2
    obtain rfl := Option.some.inj H
    go_wp2
    go_ret
    exact ⟨_, by first | rfl | (simp [errW_none, errW_some] <;> rfl) | (simp [*, errW_none, errW_some] <;> rfl), by (with_reducible repeat (first | apply Kd.R_alloc | apply Kd.R_drewN | apply Kd.R_drew)); exact HO_3.out, by repeat (first | (with_reducible first | exact HB.out | apply below_alloc | apply pw_below_drewN | apply below_drew1) | exact HB.out)⟩
def audit_Late.ev (x : S54) : Go.Proofs.Ythniclbmpeklmaa.Au.Ev := ⟨x.f0, x.f1, x.f2, x.f3.f0, x.f3.f1, x.f4.f0, x.f4.f1, x.f5, x.f6, x.f7, x.f8, x.f9⟩
def audit_Late.f (l0 : List S54) (a1 a2 : Int) : Option (List S34) := if l0.length ≤ 1000000 ∧ (l0.all fun x => Go.Proofs.Ythniclbmpeklmaa.Au.wfB (audit_Late.ev x)) = true then some ((Go.Proofs.Ythniclbmpeklmaa.Au.lateI (l0.map audit_Late.ev) a1 a2).map fun h => ⟨h.1, h.2⟩) else none
theorem audit_Late.calls (A0 : Option Addr) (c0 : Nat) (l0 : List S54) (a1 a2 : Int) (r : List S34) (w : World) (hr0 : Kd.C k54 w A0 l0.length l0) (hc0 : l0.length ≤ c0) (h : audit_Late.f l0 a1 a2 = some r) :
  Calls Try.prog 24 #[.slice A0 l0.length c0, .int .i64 a1, .int .i64 a2] w fun e w' => ∃ v0_ : Value, e = .returned (v0_) ∧ Kd.R k34 34 w' w.heap.size (fun _ => True) v0_ r ∧ Below w.heap.size w w' := by
 unfold audit_Late.f at h
 split at h
 ·rename_i hs
  cases h
  have h1 := Go.Proofs.Ythniclbmpeklmaa.Au.late_top A0 c0 (l0.map audit_Late.ev) a1 a2 (by rw [List.length_map]; exact hs.1) w (fun i e he => by
   rw [List.getElem?_map] at he
   obtain ⟨x, hx, rfl⟩ := Option.map_eq_some_iff.1 he
   have hi : i < l0.length := (List.getElem?_eq_some_iff.1 hx).1
   have hrd : rd_T54 l0 (i : Int) = x := by
    show l0.getD i z54 = x
    rw [List.getD_eq_getElem?_getD, hx]; rfl
   have hat := at_T54 hr0 (i : Int) (by omega) (by omega)
   rw [hrd] at hat
   exact hat) (fun e he => by
   obtain ⟨x, hx, rfl⟩ := List.mem_map.1 he
   exact Go.Proofs.Ythniclbmpeklmaa.Au.wfE_of (List.all_eq_true.1 hs.2 x hx))
  rw [List.length_map] at h1
  refine h1.mono ?_
  rintro e w' ⟨v, rfl, hR, hb⟩
  refine ⟨v, rfl, ⟨fun _ _ => trivial, _, (show w'.ownsRow w.heap.size 34 2 v _ _ from by have := hR; unfold Go.Proofs.Ythniclbmpeklmaa.Au.RowIs at this; rw [List.length_map]; exact this), ⟨?_, fun j p hp => ?_⟩⟩, hb⟩
  ·rw [Go.Proofs.Ythniclbmpeklmaa.Au.flat_len (A := Go.Proofs.Ythniclbmpeklmaa.Au.hcA) (k := 2) (fun _ => rfl), List.length_map]; rfl
  ·rw [List.getElem?_map] at hp
   obtain ⟨x, hx, rfl⟩ := Option.map_eq_some_iff.1 hp
   rw [show k34.sz = 2 from rfl, Go.Proofs.Ythniclbmpeklmaa.Au.flat_cut2 (A := Go.Proofs.Ythniclbmpeklmaa.Au.hcA) (k := 2) (fun _ => rfl) hx]
   exact k34_mkM _ _ _ _
 ·cases h
mutual
def knelllaw14_AuditSlack.j0 : Nat → List (S50) → Int → Int → Int → Int → Bool → Option (Bool)
 | 0, _, _, _, _, _, _ => none
 | k + 1, x0, x1, x2, x3, x4, x24 => if x24 = true then ((knelllaw14_speaks.f).bind fun t130 => (some t130)) else ((knelllaw11_Ofs.f k x0).bind fun t131 => ((audit_Late.f t131 (wrap64 (x1)) (wrap64 (x3))).bind fun t134 => ((audit_Late.f t131 (wrap64 ((wrap64 (x1)) + (wrap64 (x2)))) (wrap64 ((wrap64 (x3)) + (wrap64 (x4))))).bind fun t137 => (knelllaw14_AuditSlack.l0 k t134 t137 (t137.length : Int) 0))))
def knelllaw14_AuditSlack.l0 : Nat → List (S34) → List (S34) → Int → Int → Option (Bool)
 | 0, _, _, _, _ => none
 | k + 1, x12, x45, x46, x47 => if x47 < x46 then (if 0 ≤ x47 then (if x47 < (x45.length : Int) then (knelllaw14_AuditSlack.l1 k x12 false x45 x46 x47 x12 (x12.length : Int) 0 ((rd_T34 x45 x47).f0) ((rd_T34 x45 x47).f1)) else (none)) else (none)) else (some true)
def knelllaw14_AuditSlack.l1 : Nat → List (S34) → Bool → List (S34) → Int → Int → List (S34) → Int → Int → Int → Int → Option (Bool)
 | 0, _, _, _, _, _, _, _, _, _, _ => none
 | k + 1, x12, x15, x45, x46, x47, x51, x52, x53, x142000, x142001 => if x53 < x52 then (if 0 ≤ x53 then (if x53 < (x51.length : Int) then (if x15 = true then (knelllaw14_AuditSlack.l1 k x12 true x45 x46 x47 x51 x52 (wrap64 (x53 + 1)) x142000 x142001) else (knelllaw14_AuditSlack.l1 k x12 (((rd_T34 x51 x53).f0) == x142000 && (((rd_T34 x51 x53).f1) == x142001)) x45 x46 x47 x51 x52 (wrap64 (x53 + 1)) x142000 x142001)) else (none)) else (none)) else (if x15 = true then (knelllaw14_AuditSlack.l0 k x12 x45 x46 (wrap64 (x47 + 1))) else (some false))
end
def knelllaw14_AuditSlack.f (k : Nat) (l0 : List (S50)) (a1 : Int) (a2 : Int) (a3 : Int) (a4 : Int) : Option (Bool) := (knelllaw14_speaks.f).bind fun t129 => (if t129 = true then (knelllaw14_AuditSlack.j0 k l0 a1 a2 a3 a4 (decide ((l0.length : Int) > 60))) else (knelllaw14_AuditSlack.j0 k l0 a1 a2 a3 a4 true))
theorem knelllaw14_AuditSlack.calls (k : Nat) (A0 : Option Addr) (c0 : Nat) (l0 : List (S50)) (a1 : Int) (a2 : Int) (a3 : Int) (a4 : Int) (r : Bool) (w : World) (hr0 : Kd.C k50 w A0 l0.length l0) (hc0 : l0.length ≤ c0) (h : knelllaw14_AuditSlack.f k l0 a1 a2 a3 a4 = some r) :
  Calls Try.prog 5 #[.slice A0 l0.length c0, .int .u8 a1, .int .u8 a2, .int .u8 a3, .int .u8 a4] w fun e w' => e = .returned (.bool r) ∧ Below w.heap.size w w' := by
 have hu34 := Try.underlying34
 have HR0 := Aside0.mk hr0
 have HC0 := Aside0.mk hc0
 clear hr0 hc0
 have HB := Aside0.mk (Below.refl w.heap.size w)
 have H : ((knelllaw14_speaks.f).bind fun t129 => (if t129 = true then (knelllaw14_AuditSlack.j0 k l0 a1 a2 a3 a4 (decide ((l0.length : Int) > 60))) else (knelllaw14_AuditSlack.j0 k l0 a1 a2 a3 a4 true))) = some r := h
 clear h
 have HC6 := Aside0.mk H
 clear H
 go_enter Try.func5, Try.ntmps5
 go_upto_region 1 with (fail)
 go_cut [24] (fun v24 wc => ∃ (kq : Nat) (x24_5 : Bool), v24 = .bool x24_5 ∧ Aside0 (knelllaw14_AuditSlack.j0 kq l0 a1 a2 a3 a4 x24_5 = some r) ∧ Aside0 (kq ≤ k) ∧ Aside0 (Below w.heap.size w wc))
 case first =>
  have H := HC6.out
  clear HC6
  replace H := Option.bind_eq_some_iff.mp H
  obtain ⟨t129, A70, H⟩ := H
  replace H : (if t129 = true then (knelllaw14_AuditSlack.j0 k l0 a1 a2 a3 a4 (decide ((l0.length : Int) > 60))) else (knelllaw14_AuditSlack.j0 k l0 a1 a2 a3 a4 true)) = some r := H
  have A7 := Aside0.mk A70
  clear A70
  by_cases c8 : t129 = true
  ·subst c8
   have H1 : (knelllaw14_AuditSlack.j0 k l0 a1 a2 a3 a4 (decide ((l0.length : Int) > 60))) = some r := by rw [if_pos rfl] at H; exact H
   clear H
   have H := H1
   clear H1
   have H' := Aside0.mk H
   clear H
   go_wp2_with (first | ((with_reducible refine gate_callee (f := 15) rfl ?_); refine goesL_ (some 18) rfl rfl Try.func15 (by kernel_rfl) rfl #[] rfl (by (try simp only [List.map_toArray, List.map_cons, List.map_nil]); first | done | rfl | (simp only [List.length_drop, List.length_take]; rfl)) ?_; (with_reducible refine (knelllaw14_speaks.calls  true _ A7.out).mono ?_); rintro e w9 ⟨rfl, hb⟩; refine ⟨_, rfl, ?_⟩; have n0_ := Aside0.mk (below_step (by repeat (first | (with_reducible first | exact HB.out | apply below_alloc | apply pw_below_drewN | apply below_drew1) | exact HB.out)) hb); clear HB; have HB := n0_; clear n0_; (try clear hb); (try clear hb2); (try clear hk); (try clear hi)))
   go_meet
   case rel => exact ⟨_, (decide ((l0.length : Int) > 60)), (by first | rfl | (simp; done) | (simp [*]; done)), H', ⟨by first | omega | exact Nat.le_refl _⟩, ⟨by repeat (first | (with_reducible first | exact HB.out | apply below_alloc | apply pw_below_drewN | apply below_drew1) | exact HB.out)⟩⟩
  ·replace c8 := Bool.eq_false_iff.mpr c8
   subst c8
   have H1 : (knelllaw14_AuditSlack.j0 k l0 a1 a2 a3 a4 true) = some r := by rw [if_neg (show ¬ (false = true) by decide)] at H; exact H
   clear H
   have H := H1
   clear H1
   have H' := Aside0.mk H
   clear H
   go_wp2_with (first | ((with_reducible refine gate_callee (f := 15) rfl ?_); refine goesL_ (some 18) rfl rfl Try.func15 (by kernel_rfl) rfl #[] rfl (by (try simp only [List.map_toArray, List.map_cons, List.map_nil]); first | done | rfl | (simp only [List.length_drop, List.length_take]; rfl)) ?_; (with_reducible refine (knelllaw14_speaks.calls  false _ A7.out).mono ?_); rintro e w10 ⟨rfl, hb⟩; refine ⟨_, rfl, ?_⟩; have n0_ := Aside0.mk (below_step (by repeat (first | (with_reducible first | exact HB.out | apply below_alloc | apply pw_below_drewN | apply below_drew1) | exact HB.out)) hb); clear HB; have HB := n0_; clear n0_; (try clear hb); (try clear hb2); (try clear hk); (try clear hi)))
   go_meet
   case rel => exact ⟨_, (true), (by first | rfl | (simp; done) | (simp [*]; done)), H', ⟨by first | omega | exact Nat.le_refl _⟩, ⟨by repeat (first | (with_reducible first | exact HB.out | apply below_alloc | apply pw_below_drewN | apply below_drew1) | exact HB.out)⟩⟩
 case rest =>
  clear HC6
  try clear c1
  try clear p2
  try clear c5
  try clear c8
  obtain ⟨kq, x24_5, rfl, HA, HJ5, HB⟩ := hcut
  cases kq with
  | zero => exact absurd HA.out (by simp [knelllaw14_AuditSlack.j0])
  | succ kj5 =>
   have H := HA.out
   clear HA
   simp only [knelllaw14_AuditSlack.j0] at H
   by_cases c11 : x24_5 = true
   ·subst c11
    have H1 : ((knelllaw14_speaks.f).bind fun t130 => (some t130)) = some r := by rw [if_pos rfl] at H; exact H
    clear H
    have H := H1
    clear H1
    replace H := Option.bind_eq_some_iff.mp H
    obtain ⟨t130, A120, H⟩ := H
    replace H : (some t130) = some r := H
    have A12 := Aside0.mk A120
    clear A120
    obtain rfl := Option.some.inj H
    go_wp2_with (first | ((with_reducible refine gate_callee (f := 15) rfl ?_); refine goesL_ (some 25) rfl rfl Try.func15 (by kernel_rfl) rfl #[] rfl (by (try simp only [List.map_toArray, List.map_cons, List.map_nil]); first | done | rfl | (simp only [List.length_drop, List.length_take]; rfl)) ?_; (with_reducible refine (knelllaw14_speaks.calls  t130 _ A12.out).mono ?_); rintro e w13 ⟨rfl, hb⟩; refine ⟨_, rfl, ?_⟩; have n0_ := Aside0.mk (below_step (by repeat (first | (with_reducible first | exact HB.out | apply below_alloc | apply pw_below_drewN | apply below_drew1) | exact HB.out)) hb); clear HB; have HB := n0_; clear n0_; (try clear hb); (try clear hb2); (try clear hk); (try clear hi)))
    go_ret
    exact ⟨by first | rfl | (simp [errW_none, errW_some] <;> rfl) | (simp [*, errW_none, errW_some] <;> rfl), by repeat (first | (with_reducible first | exact HB.out | apply below_alloc | apply pw_below_drewN | apply below_drew1) | exact HB.out)⟩
   ·replace c11 := Bool.eq_false_iff.mpr c11
    subst c11
    have H1 : ((knelllaw11_Ofs.f kj5 l0).bind fun t131 => ((audit_Late.f t131 (wrap64 (a1)) (wrap64 (a3))).bind fun t134 => ((audit_Late.f t131 (wrap64 ((wrap64 (a1)) + (wrap64 (a2)))) (wrap64 ((wrap64 (a3)) + (wrap64 (a4))))).bind fun t137 => (knelllaw14_AuditSlack.l0 kj5 t134 t137 (t137.length : Int) 0)))) = some r := by rw [if_neg (show ¬ (false = true) by decide)] at H; exact H
    clear H
    have H := H1
    clear H1
    replace H := Option.bind_eq_some_iff.mp H
    obtain ⟨t131, A140, H⟩ := H
    replace H : ((audit_Late.f t131 (wrap64 (a1)) (wrap64 (a3))).bind fun t134 => ((audit_Late.f t131 (wrap64 ((wrap64 (a1)) + (wrap64 (a2)))) (wrap64 ((wrap64 (a3)) + (wrap64 (a4))))).bind fun t137 => (knelllaw14_AuditSlack.l0 kj5 t134 t137 (t137.length : Int) 0))) = some r := H
    have A14 := Aside0.mk A140
    clear A140
    replace H := Option.bind_eq_some_iff.mp H
    obtain ⟨t134, A150, H⟩ := H
    replace H : ((audit_Late.f t131 (wrap64 ((wrap64 (a1)) + (wrap64 (a2)))) (wrap64 ((wrap64 (a3)) + (wrap64 (a4))))).bind fun t137 => (knelllaw14_AuditSlack.l0 kj5 t134 t137 (t137.length : Int) 0)) = some r := H
    have A15 := Aside0.mk A150
    clear A150
    replace H := Option.bind_eq_some_iff.mp H
    obtain ⟨t137, A160, H⟩ := H
    replace H : (knelllaw14_AuditSlack.l0 kj5 t134 t137 (t137.length : Int) 0) = some r := H
    have A16 := Aside0.mk A160
    clear A160
    have H' := Aside0.mk H
    clear H
    go_wp2_with (first | ((with_reducible refine gate_callee (f := 16) rfl ?_); refine goesL_ (some 27) rfl rfl Try.func16 (by kernel_rfl) rfl #[.slice A0 l0.length c0] rfl (by (try simp only [List.map_toArray, List.map_cons, List.map_nil]); first | done | rfl | (simp only [List.length_drop, List.length_take]; rfl)) ?_; (with_reducible refine (knelllaw11_Ofs.calls kj5 _ _ l0 t131 _ ?side1 ?side2 A14.out).mono ?_); (case side1 => repeat (first | exact (Kd.C_below HR0.out HB.out) | (with_reducible refine Kd.C_alloc ?_ _) | (with_reducible refine Kd.C_drewN ?_ _) | (with_reducible refine Kd.C_drew ?_))); (case side2 => exact HC0.out); rintro e w17 ⟨v132, rfl, ho0, hb⟩; refine ⟨_, rfl, ?_⟩; have n0_ := Aside0.mk (Kd.R_lower ho0 (below_size (by repeat (first | (with_reducible first | exact HB.out | apply below_alloc | apply pw_below_drewN | apply below_drew1) | exact HB.out)))); have n1_ := Aside0.mk (below_step (by repeat (first | (with_reducible first | exact HB.out | apply below_alloc | apply pw_below_drewN | apply below_drew1) | exact HB.out)) hb); clear HB; have HO133 := n0_; have HB := n1_; clear n0_ n1_; (try clear hb); (try clear hb2); (try clear hk); (try clear hi); (try clear ho0); obtain ⟨Ao18, co18, eo18⟩ := Kd.R_slice HO133.out; subst eo18) | ((with_reducible refine gate_callee (f := 24) rfl ?_); refine goesL_ (some 33) rfl rfl Try.func24 (by kernel_rfl) rfl #[.slice Ao18 t131.length co18, .int .i64 (wrap64 (a1)), .int .i64 (wrap64 (a3))] rfl (by (try simp only [List.map_toArray, List.map_cons, List.map_nil]); first | done | rfl | (simp only [List.length_drop, List.length_take]; rfl)) ?_; (with_reducible refine (audit_Late.calls _ _ t131 (wrap64 (a1)) (wrap64 (a3)) t134 _ ?side1 ?side2 A15.out).mono ?_); (case side1 => repeat (first | exact (Kd.R_reads' HO133.out).2.2 | (with_reducible refine Kd.C_alloc ?_ _) | (with_reducible refine Kd.C_drewN ?_ _) | (with_reducible refine Kd.C_drew ?_))); (case side2 => exact (Kd.R_reads' HO133.out).2.1); rintro e w19 ⟨v135, rfl, ho0, hb⟩; refine ⟨_, rfl, ?_⟩; have n0_ := Aside0.mk (Kd.R_below (by (with_reducible repeat (first | apply Kd.R_alloc | apply Kd.R_drewN | apply Kd.R_drew)); exact HO133.out) hb); have n1_ := Aside0.mk (Kd.R_lower ho0 (below_size (by repeat (first | (with_reducible first | exact HB.out | apply below_alloc | apply pw_below_drewN | apply below_drew1) | exact HB.out)))); have n2_ := Aside0.mk (below_step (by repeat (first | (with_reducible first | exact HB.out | apply below_alloc | apply pw_below_drewN | apply below_drew1) | exact HB.out)) hb); clear HO133; clear HB; have HO133 := n0_; have HO136 := n1_; have HB := n2_; clear n0_ n1_ n2_; (try clear hb); (try clear hb2); (try clear hk); (try clear hi); (try clear ho0)) | ((with_reducible refine gate_callee (f := 24) rfl ?_); refine goesL_ (some 45) rfl rfl Try.func24 (by kernel_rfl) rfl #[.slice Ao18 t131.length co18, .int .i64 (wrap64 ((wrap64 (a1)) + (wrap64 (a2)))), .int .i64 (wrap64 ((wrap64 (a3)) + (wrap64 (a4))))] rfl (by (try simp only [List.map_toArray, List.map_cons, List.map_nil]); first | done | rfl | (simp only [List.length_drop, List.length_take]; rfl)) ?_; (with_reducible refine (audit_Late.calls _ _ t131 (wrap64 ((wrap64 (a1)) + (wrap64 (a2)))) (wrap64 ((wrap64 (a3)) + (wrap64 (a4)))) t137 _ ?side1 ?side2 A16.out).mono ?_); (case side1 => repeat (first | exact (Kd.R_reads' HO133.out).2.2 | (with_reducible refine Kd.C_alloc ?_ _) | (with_reducible refine Kd.C_drewN ?_ _) | (with_reducible refine Kd.C_drew ?_))); (case side2 => exact (Kd.R_reads' HO133.out).2.1); rintro e w20 ⟨v138, rfl, ho0, hb⟩; refine ⟨_, rfl, ?_⟩; have n0_ := Aside0.mk (Kd.R_below (by (with_reducible repeat (first | apply Kd.R_alloc | apply Kd.R_drewN | apply Kd.R_drew)); exact HO133.out) hb); have n1_ := Aside0.mk (Kd.R_elder' (by (with_reducible repeat (first | apply Kd.R_alloc | apply Kd.R_drewN | apply Kd.R_drew)); exact HO136.out) (Kd.R_base ho0) hb); have n2_ := Aside0.mk (Kd.R_lower (Kd.R_new' ho0 (Kd.R_lt (by (with_reducible repeat (first | apply Kd.R_alloc | apply Kd.R_drewN | apply Kd.R_drew)); exact HO136.out))) (below_size (by repeat (first | (with_reducible first | exact HB.out | apply below_alloc | apply pw_below_drewN | apply below_drew1) | exact HB.out)))); have n3_ := Aside0.mk (below_step (by repeat (first | (with_reducible first | exact HB.out | apply below_alloc | apply pw_below_drewN | apply below_drew1) | exact HB.out)) hb); clear HO133; clear HO136; clear HB; have HO133 := n0_; have HO136 := n1_; have HO139 := n2_; have HB := n3_; clear n0_ n1_ n2_ n3_; (try clear hb); (try clear hb2); (try clear hk); (try clear hi); (try clear ho0); obtain ⟨Ao21, co21, eo21⟩ := Kd.R_slice HO139.out; subst eo21))
    go_loopg [47] kj5 (fun kq v47 w' => ∃ (x47_2 : Int), v47 = .int .i64 x47_2 ∧ Aside0 (knelllaw14_AuditSlack.l0 kq t134 t137 (t137.length : Int) x47_2 = some r) ∧ Aside0 (kq ≤ kj5) ∧ Aside0 (Kd.R k34 34 w' w.heap.size (fun k_ => some k_ ≠ ((.slice Ao21 t137.length co21) : Value).ownBlock) v135 t134) ∧ Aside0 (Kd.R k34 34 w' w.heap.size (fun k_ => some k_ ≠ (v135 : Value).ownBlock) (.slice Ao21 t137.length co21) t137) ∧ Aside0 (Below w.heap.size w w'))
    case atStart => exact ⟨(0), (by first | rfl | (simp; done) | (simp [*]; done)), H', ⟨Nat.le_refl _⟩, ⟨by (with_reducible repeat (first | apply Kd.R_alloc | apply Kd.R_drewN | apply Kd.R_drew)); exact Kd.R_mono HO136.out (fun _ hk => hk.2)⟩, ⟨by (with_reducible repeat (first | apply Kd.R_alloc | apply Kd.R_drewN | apply Kd.R_drew)); exact Kd.R_mono HO139.out (fun _ hk => hk.2)⟩, ⟨by repeat (first | (with_reducible first | exact HB.out | apply below_alloc | apply pw_below_drewN | apply below_drew1) | exact HB.out)⟩⟩
    case round =>
     clear H'
     try clear c1
     try clear c2
     try clear p2
     try clear c5
     try clear p6
     try clear c8
     try clear c11
     try clear c15
     try clear c16
     try clear p2
     obtain ⟨x47_2, rfl, HA, HK2, HO_12, HO_45, HB⟩ := hrel
     cases gk with
     | zero => exact absurd HA.out (by simp [knelllaw14_AuditSlack.l0])
     | succ k2 =>
      have H := HA.out
      clear HA
      simp only [knelllaw14_AuditSlack.l0] at H
      by_cases c22 : x47_2 < (t137.length : Int)
      ·rw [if_pos c22] at H
       have c22b0 : decide (x47_2 < (t137.length : Int)) = true := decide_eq_true c22
       clear c22
       by_cases c23 : 0 ≤ x47_2
       ·rw [if_pos c23] at H
        have c23b0 : decide (0 ≤ x47_2) = true := decide_eq_true c23
        clear c23
        by_cases c24 : x47_2 < (t137.length : Int)
        ·rw [if_pos c24] at H
         have c24b0 : decide (x47_2 < (t137.length : Int)) = true := decide_eq_true c24
         clear c24
         have H' := Aside0.mk H
         clear H
         have p140 : 0 ≤ (x47_2 : Int) := of_decide_eq_true (by first | (with_reducible assumption) | assumption)
         have q140 : x47_2 < (t137.length : Int) := of_decide_eq_true (by first | (with_reducible assumption) | assumption)
         obtain ⟨ad140, e140, hx140_0, hx140_1⟩ := at_T34 (Kd.R_reads' HO_45.out).2.2 x47_2 p140 q140
         cases e140
         replace p140 := eq_true p140
         replace q140 := eq_true q140
         go_wp2_with (first | ((with_reducible refine gate_dst (N := 14) rfl ?_); (try (refine gate_guard (by rfl) ?_; dsimp only)); refine box_event ?hg (N := 14) ?hd (cs := #[.int .i64 0, .int .i64 0]) (t := 34) ?hr ?_; (case hd => rfl); (case hg => rfl); (case hr => first | (go_simp; done) | (go_simp; rfl)); intro gb141 hg w25 hbox hb; have n0_ := Aside0.mk (Kd.R_below (Kd.R_elderB (by (with_reducible repeat (first | apply Kd.R_alloc | apply Kd.R_drewN | apply Kd.R_drew)); exact HO_12.out) gb141 (Nat.le_of_eq hg.symm)) hb); have n1_ := Aside0.mk (Kd.R_below (Kd.R_elderB (by (with_reducible repeat (first | apply Kd.R_alloc | apply Kd.R_drewN | apply Kd.R_drew)); exact HO_45.out) gb141 (Nat.le_of_eq hg.symm)) hb); have n2_ := Aside0.mk (below_step (by repeat (first | (with_reducible first | exact HB.out | apply below_alloc | apply pw_below_drewN | apply below_drew1) | exact HB.out)) hb); have n3_ := Aside0.mk (hbox); have n4_ := Aside0.mk ((by rw [hg]; exact (below_size (by repeat (first | (with_reducible first | exact HB.out | apply below_alloc | apply pw_below_drewN | apply below_drew1) | exact HB.out))) : w.heap.size ≤ gb141)); have n5_ := Aside0.mk ((by rw [hg]; exact (below_size (by repeat (first | (with_reducible first | exact HB.out | apply below_alloc | apply pw_below_drewN | apply below_drew1) | exact HB.out))) : w.heap.size ≤ gb141)); clear HO_12; clear HO_45; clear HB; have HO_12 := n0_; have HO_45 := n1_; have HB := n2_; have BK141 := n3_; have GW141 := n4_; have GE141 := n5_; clear n0_ n1_ n2_ n3_ n4_ n5_; clear hb hbox hg; have hcz26_0 : w25.cell? ⟨gb141, 0, none⟩ = some (.int .i64 0) := (blk_cell BK141.out 0).trans rfl; have hcz26_1 : w25.cell? ⟨gb141, 1, none⟩ = some (.int .i64 0) := (blk_cell BK141.out 1).trans rfl; have hfz26_0 := blk_frozen BK141.out 0; have hfz26_1 := blk_frozen BK141.out 1; obtain ⟨Ao27, co27, eo27⟩ := Kd.R_slice HO_12.out; subst eo27))
         go_loopg [15, 53] k2 (fun kq v15 v53 w' => ∃ (x15_3 : Bool) (x53_3 : Int), v15 = .bool x15_3 ∧ v53 = .int .i64 x53_3 ∧ Aside0 (knelllaw14_AuditSlack.l1 kq t134 x15_3 t137 (t137.length : Int) x47_2 t134 (t134.length : Int) x53_3 ((rd_T34 t137 x47_2).f0) ((rd_T34 t137 x47_2).f1) = some r) ∧ Aside0 (kq ≤ k2) ∧ Aside0 (Kd.R k34 34 w' w.heap.size (fun k_ => some k_ ≠ ((.slice (some ad140) t137.length co21) : Value).ownBlock ∧ k_ ≠ gb141) (.slice Ao27 t134.length co27) t134) ∧ Aside0 (Kd.R k34 34 w' w.heap.size (fun k_ => some k_ ≠ ((.slice Ao27 t134.length co27) : Value).ownBlock ∧ some k_ ≠ ((.slice Ao27 t134.length co27) : Value).ownBlock ∧ k_ ≠ gb141) (.slice (some ad140) t137.length co21) t137) ∧ Aside0 (Kd.R k34 34 w' w.heap.size (fun k_ => some k_ ≠ ((.slice (some ad140) t137.length co21) : Value).ownBlock ∧ k_ ≠ gb141) (.slice Ao27 t134.length co27) t134) ∧ Aside0 (w'.heap[gb141]? = some (.cells #[.int .i64 ((rd_T34 t137 x47_2).f0), .int .i64 ((rd_T34 t137 x47_2).f1)] 34 (0, 0))) ∧ Aside0 (Below w.heap.size w w'))
         case atStart => exact ⟨(false), (0), (by first | rfl | (simp; done) | (simp [*]; done)), (by first | rfl | (simp; done) | (simp [*]; done)), H', ⟨Nat.le_refl _⟩, ⟨by (with_reducible repeat (first | apply Kd.R_alloc | apply Kd.R_drewN | apply Kd.R_drew)); exact Kd.R_mono (Kd.R_far (p := ⟨gb141, 1, none⟩) (Kd.R_far (p := ⟨gb141, 0, none⟩) (Kd.R_mono HO_12.out (fun k_ hk => (⟨hk, hk.2⟩ : _ ∧ k_ ≠ gb141))) (fun _ hk => hk.2) (.int .i64 ((rd_T34 t137 x47_2).f0))) (fun _ hk => hk.2) (.int .i64 ((rd_T34 t137 x47_2).f1))) (fun _ hk => ⟨hk.1.1, hk.1.2⟩)⟩, ⟨by (with_reducible repeat (first | apply Kd.R_alloc | apply Kd.R_drewN | apply Kd.R_drew)); exact Kd.R_mono (Kd.R_far (p := ⟨gb141, 1, none⟩) (Kd.R_far (p := ⟨gb141, 0, none⟩) (Kd.R_mono HO_45.out (fun k_ hk => (⟨hk, hk.2⟩ : _ ∧ k_ ≠ gb141))) (fun _ hk => hk.2) (.int .i64 ((rd_T34 t137 x47_2).f0))) (fun _ hk => hk.2) (.int .i64 ((rd_T34 t137 x47_2).f1))) (fun _ hk => ⟨hk.1.1, ⟨hk.1.1, hk.1.2⟩⟩)⟩, ⟨by (with_reducible repeat (first | apply Kd.R_alloc | apply Kd.R_drewN | apply Kd.R_drew)); exact Kd.R_mono (Kd.R_far (p := ⟨gb141, 1, none⟩) (Kd.R_far (p := ⟨gb141, 0, none⟩) (Kd.R_mono HO_12.out (fun k_ hk => (⟨hk, hk.2⟩ : _ ∧ k_ ≠ gb141))) (fun _ hk => hk.2) (.int .i64 ((rd_T34 t137 x47_2).f0))) (fun _ hk => hk.2) (.int .i64 ((rd_T34 t137 x47_2).f1))) (fun _ hk => ⟨hk.1.1, hk.1.2⟩)⟩, ⟨by (with_reducible repeat (first | refine blk_drewN ?_ _ | refine blk_drew ?_ | refine blk_alloc ?_ _)); refine blk_put (cs := #[.int .i64 ((rd_T34 t137 x47_2).f0), .int .i64 0]) ?_ 1 _ rfl; (with_reducible repeat (first | refine blk_drewN ?_ _ | refine blk_drew ?_ | refine blk_alloc ?_ _)); refine blk_put (cs := #[.int .i64 0, .int .i64 0]) ?_ 0 _ rfl; (with_reducible repeat (first | refine blk_drewN ?_ _ | refine blk_drew ?_ | refine blk_alloc ?_ _)); exact BK141.out⟩, ⟨by repeat (first | (with_reducible first | exact HB.out | apply below_alloc | apply pw_below_drewN | apply below_drew1 | refine below_set ?_ GE141.out) | exact HB.out)⟩⟩
         case round =>
          clear H'
          try clear c1
          try clear p1
          try clear q1
          try clear hx1
          try clear c2
          try clear p2
          try clear c5
          try clear p6
          try clear c8
          try clear c11
          try clear p14
          try clear q14
          try clear hx14
          try clear c15
          try clear c16
          try clear c22
          try clear c22b0
          try clear c23
          try clear c23b0
          try clear c24
          try clear c24b0
          try clear hcz26_0
          try clear hcz26_1
          try clear hfz26_0
          try clear hfz26_1
          try clear hx140_0
          try clear hx140_1
          try clear p140
          try clear p2
          try clear p6
          try clear q140
          obtain ⟨x15_3, x53_3, rfl, rfl, HA, HK3, HO_12, HO_45, HO_51, BK141, HB⟩ := hrel
          cases gk with
          | zero => exact absurd HA.out (by simp [knelllaw14_AuditSlack.l1])
          | succ k3 =>
           have H := HA.out
           clear HA
           simp only [knelllaw14_AuditSlack.l1] at H
           by_cases c28 : x53_3 < (t134.length : Int)
           ·rw [if_pos c28] at H
            have c28b0 : decide (x53_3 < (t134.length : Int)) = true := decide_eq_true c28
            clear c28
            by_cases c29 : 0 ≤ x53_3
            ·rw [if_pos c29] at H
             have c29b0 : decide (0 ≤ x53_3) = true := decide_eq_true c29
             clear c29
             by_cases c30 : x53_3 < (t134.length : Int)
             ·rw [if_pos c30] at H
              have c30b0 : decide (x53_3 < (t134.length : Int)) = true := decide_eq_true c30
              clear c30
              by_cases c31 : x15_3 = true
              ·subst c31
               have H1 : (knelllaw14_AuditSlack.l1 k3 t134 true t137 (t137.length : Int) x47_2 t134 (t134.length : Int) (wrap64 (x53_3 + 1)) ((rd_T34 t137 x47_2).f0) ((rd_T34 t137 x47_2).f1)) = some r := by rw [if_pos rfl] at H; exact H
               clear H
               have H := H1
               clear H1
               have H' := Aside0.mk H
               clear H
               have p142 : 0 ≤ (x53_3 : Int) := of_decide_eq_true (by first | (with_reducible assumption) | assumption)
               have q142 : x53_3 < (t134.length : Int) := of_decide_eq_true (by first | (with_reducible assumption) | assumption)
               obtain ⟨ad142, e142, hx142_0, hx142_1⟩ := at_T34 (Kd.R_reads' HO_51.out).2.2 x53_3 p142 q142
               cases e142
               replace p142 := eq_true p142
               replace q142 := eq_true q142
               go_wp2_with (first | ((with_reducible refine gate_dst (N := 17) rfl ?_); (try (refine gate_guard (by rfl) ?_; dsimp only)); refine box_event ?hg (N := 17) ?hd (cs := #[.int .i64 0, .int .i64 0]) (t := 34) ?hr ?_; (case hd => rfl); (case hg => rfl); (case hr => first | (go_simp; done) | (go_simp; rfl)); intro gb143 hg w32 hbox hb; have n0_ := Aside0.mk (Kd.R_below (Kd.R_elderB (by (with_reducible repeat (first | apply Kd.R_alloc | apply Kd.R_drewN | apply Kd.R_drew)); exact HO_12.out) gb143 (Nat.le_of_eq hg.symm)) hb); have n1_ := Aside0.mk (Kd.R_below (Kd.R_elderB (by (with_reducible repeat (first | apply Kd.R_alloc | apply Kd.R_drewN | apply Kd.R_drew)); exact HO_45.out) gb143 (Nat.le_of_eq hg.symm)) hb); have n2_ := Aside0.mk (Kd.R_below (Kd.R_elderB (by (with_reducible repeat (first | apply Kd.R_alloc | apply Kd.R_drewN | apply Kd.R_drew)); exact HO_51.out) gb143 (Nat.le_of_eq hg.symm)) hb); have n3_ := Aside0.mk (blk_below (g := gb141) (o := .cells #[.int .i64 ((rd_T34 t137 x47_2).f0), .int .i64 ((rd_T34 t137 x47_2).f1)] 34 (0, 0)) (by (with_reducible repeat (first | refine blk_drewN ?_ _ | refine blk_drew ?_ | refine blk_alloc ?_ _)); exact BK141.out) hb); have n4_ := Aside0.mk (below_step (by repeat (first | (with_reducible first | exact HB.out | apply below_alloc | apply pw_below_drewN | apply below_drew1 | refine below_set ?_ GE141.out) | exact HB.out)) hb); have n5_ := Aside0.mk (hbox); have n6_ := Aside0.mk ((by rw [hg]; exact (below_size (by repeat (first | (with_reducible first | exact HB.out | apply below_alloc | apply pw_below_drewN | apply below_drew1 | refine below_set ?_ GE141.out) | exact HB.out))) : w.heap.size ≤ gb143)); have n7_ := Aside0.mk ((by rw [hg]; exact (below_size (by repeat (first | (with_reducible first | exact HB.out | apply below_alloc | apply pw_below_drewN | apply below_drew1 | refine below_set ?_ GE141.out) | exact HB.out))) : w.heap.size ≤ gb143)); have n8_ := Aside0.mk ((by rw [hg]; exact Nat.ne_of_lt (blk_lt (g := gb141) (o := .cells #[.int .i64 ((rd_T34 t137 x47_2).f0), .int .i64 ((rd_T34 t137 x47_2).f1)] 34 (0, 0)) (by (with_reducible repeat (first | refine blk_drewN ?_ _ | refine blk_drew ?_ | refine blk_alloc ?_ _)); exact BK141.out)) : gb141 ≠ gb143)); have n9_ := Aside0.mk ((by rw [hg]; exact Nat.ne_of_gt (blk_lt (g := gb141) (o := .cells #[.int .i64 ((rd_T34 t137 x47_2).f0), .int .i64 ((rd_T34 t137 x47_2).f1)] 34 (0, 0)) (by (with_reducible repeat (first | refine blk_drewN ?_ _ | refine blk_drew ?_ | refine blk_alloc ?_ _)); exact BK141.out)) : gb143 ≠ gb141)); clear HO_12; clear HO_45; clear HO_51; clear BK141; clear HB; have HO_12 := n0_; have HO_45 := n1_; have HO_51 := n2_; have BK141 := n3_; have HB := n4_; have BK143 := n5_; have GW143 := n6_; have GE143 := n7_; have NB141_143 := n8_; have NB143_141 := n9_; clear n0_ n1_ n2_ n3_ n4_ n5_ n6_ n7_ n8_ n9_; clear hb hbox hg; have hnb33 := NB143_141.out; have hnc33 := NB141_143.out; have hcz34_0 : w32.cell? ⟨gb143, 0, none⟩ = some (.int .i64 0) := (blk_cell BK143.out 0).trans rfl; have hcz34_1 : w32.cell? ⟨gb143, 1, none⟩ = some (.int .i64 0) := (blk_cell BK143.out 1).trans rfl; have hfz34_0 := blk_frozen BK143.out 0; have hfz34_1 := blk_frozen BK143.out 1))
               go_roundg k3
               case measure => have := HJ5.out; have := HK2.out; have := HK3.out; omega
               case rel => exact ⟨(true), (wrap64 (x53_3 + 1)), (by first | rfl | (simp; done) | (simp [*]; done)), (by first | rfl | (simp; done) | (simp [*]; done)), H', ⟨by have := HJ5.out; have := HK2.out; have := HK3.out; omega⟩, ⟨by (with_reducible repeat (first | apply Kd.R_alloc | apply Kd.R_drewN | apply Kd.R_drew)); exact Kd.R_mono (Kd.R_far (p := ⟨gb143, 1, none⟩) (Kd.R_far (p := ⟨gb143, 0, none⟩) (Kd.R_mono HO_12.out (fun k_ hk => (⟨hk, hk.2⟩ : _ ∧ k_ ≠ gb143))) (fun _ hk => hk.2) (.int .i64 ((rd_T34 t134 x53_3).f0))) (fun _ hk => hk.2) (.int .i64 ((rd_T34 t134 x53_3).f1))) (fun _ hk => ⟨hk.1.1.1, hk.1.1.2⟩)⟩, ⟨by (with_reducible repeat (first | apply Kd.R_alloc | apply Kd.R_drewN | apply Kd.R_drew)); exact Kd.R_mono (Kd.R_far (p := ⟨gb143, 1, none⟩) (Kd.R_far (p := ⟨gb143, 0, none⟩) (Kd.R_mono HO_45.out (fun k_ hk => (⟨hk, hk.2⟩ : _ ∧ k_ ≠ gb143))) (fun _ hk => hk.2) (.int .i64 ((rd_T34 t134 x53_3).f0))) (fun _ hk => hk.2) (.int .i64 ((rd_T34 t134 x53_3).f1))) (fun _ hk => ⟨hk.1.1.1, ⟨hk.1.1.2.1, hk.1.1.2.2⟩⟩)⟩, ⟨by (with_reducible repeat (first | apply Kd.R_alloc | apply Kd.R_drewN | apply Kd.R_drew)); exact Kd.R_mono (Kd.R_far (p := ⟨gb143, 1, none⟩) (Kd.R_far (p := ⟨gb143, 0, none⟩) (Kd.R_mono HO_51.out (fun k_ hk => (⟨hk, hk.2⟩ : _ ∧ k_ ≠ gb143))) (fun _ hk => hk.2) (.int .i64 ((rd_T34 t134 x53_3).f0))) (fun _ hk => hk.2) (.int .i64 ((rd_T34 t134 x53_3).f1))) (fun _ hk => ⟨hk.1.1.1, hk.1.1.2⟩)⟩, ⟨by (with_reducible repeat (first | refine blk_drewN ?_ _ | refine blk_drew ?_ | refine blk_alloc ?_ _)); refine blk_far ?_ NB141_143.out _; (with_reducible repeat (first | refine blk_drewN ?_ _ | refine blk_drew ?_ | refine blk_alloc ?_ _)); refine blk_far ?_ NB141_143.out _; (with_reducible repeat (first | refine blk_drewN ?_ _ | refine blk_drew ?_ | refine blk_alloc ?_ _)); exact BK141.out⟩, ⟨by repeat (first | (with_reducible first | exact HB.out | apply below_alloc | apply pw_below_drewN | apply below_drew1 | refine below_set ?_ GE141.out | refine below_set ?_ GE143.out) | exact HB.out)⟩⟩
              ·replace c31 := Bool.eq_false_iff.mpr c31
               subst c31
               have H1 : (knelllaw14_AuditSlack.l1 k3 t134 (((rd_T34 t134 x53_3).f0) == ((rd_T34 t137 x47_2).f0) && (((rd_T34 t134 x53_3).f1) == ((rd_T34 t137 x47_2).f1))) t137 (t137.length : Int) x47_2 t134 (t134.length : Int) (wrap64 (x53_3 + 1)) ((rd_T34 t137 x47_2).f0) ((rd_T34 t137 x47_2).f1)) = some r := by rw [if_neg (show ¬ (false = true) by decide)] at H; exact H
               clear H
               have H := H1
               clear H1
               have H' := Aside0.mk H
               clear H
               have p142 : 0 ≤ (x53_3 : Int) := of_decide_eq_true (by first | (with_reducible assumption) | assumption)
               have q142 : x53_3 < (t134.length : Int) := of_decide_eq_true (by first | (with_reducible assumption) | assumption)
               obtain ⟨ad142, e142, hx142_0, hx142_1⟩ := at_T34 (Kd.R_reads' HO_51.out).2.2 x53_3 p142 q142
               cases e142
               replace p142 := eq_true p142
               replace q142 := eq_true q142
               go_wp2_with (first | ((with_reducible refine gate_dst (N := 17) rfl ?_); (try (refine gate_guard (by rfl) ?_; dsimp only)); refine box_event ?hg (N := 17) ?hd (cs := #[.int .i64 0, .int .i64 0]) (t := 34) ?hr ?_; (case hd => rfl); (case hg => rfl); (case hr => first | (go_simp; done) | (go_simp; rfl)); intro gb143 hg w35 hbox hb; have n0_ := Aside0.mk (Kd.R_below (Kd.R_elderB (by (with_reducible repeat (first | apply Kd.R_alloc | apply Kd.R_drewN | apply Kd.R_drew)); exact HO_12.out) gb143 (Nat.le_of_eq hg.symm)) hb); have n1_ := Aside0.mk (Kd.R_below (Kd.R_elderB (by (with_reducible repeat (first | apply Kd.R_alloc | apply Kd.R_drewN | apply Kd.R_drew)); exact HO_45.out) gb143 (Nat.le_of_eq hg.symm)) hb); have n2_ := Aside0.mk (Kd.R_below (Kd.R_elderB (by (with_reducible repeat (first | apply Kd.R_alloc | apply Kd.R_drewN | apply Kd.R_drew)); exact HO_51.out) gb143 (Nat.le_of_eq hg.symm)) hb); have n3_ := Aside0.mk (blk_below (g := gb141) (o := .cells #[.int .i64 ((rd_T34 t137 x47_2).f0), .int .i64 ((rd_T34 t137 x47_2).f1)] 34 (0, 0)) (by (with_reducible repeat (first | refine blk_drewN ?_ _ | refine blk_drew ?_ | refine blk_alloc ?_ _)); exact BK141.out) hb); have n4_ := Aside0.mk (below_step (by repeat (first | (with_reducible first | exact HB.out | apply below_alloc | apply pw_below_drewN | apply below_drew1 | refine below_set ?_ GE141.out) | exact HB.out)) hb); have n5_ := Aside0.mk (hbox); have n6_ := Aside0.mk ((by rw [hg]; exact (below_size (by repeat (first | (with_reducible first | exact HB.out | apply below_alloc | apply pw_below_drewN | apply below_drew1 | refine below_set ?_ GE141.out) | exact HB.out))) : w.heap.size ≤ gb143)); have n7_ := Aside0.mk ((by rw [hg]; exact (below_size (by repeat (first | (with_reducible first | exact HB.out | apply below_alloc | apply pw_below_drewN | apply below_drew1 | refine below_set ?_ GE141.out) | exact HB.out))) : w.heap.size ≤ gb143)); have n8_ := Aside0.mk ((by rw [hg]; exact Nat.ne_of_lt (blk_lt (g := gb141) (o := .cells #[.int .i64 ((rd_T34 t137 x47_2).f0), .int .i64 ((rd_T34 t137 x47_2).f1)] 34 (0, 0)) (by (with_reducible repeat (first | refine blk_drewN ?_ _ | refine blk_drew ?_ | refine blk_alloc ?_ _)); exact BK141.out)) : gb141 ≠ gb143)); have n9_ := Aside0.mk ((by rw [hg]; exact Nat.ne_of_gt (blk_lt (g := gb141) (o := .cells #[.int .i64 ((rd_T34 t137 x47_2).f0), .int .i64 ((rd_T34 t137 x47_2).f1)] 34 (0, 0)) (by (with_reducible repeat (first | refine blk_drewN ?_ _ | refine blk_drew ?_ | refine blk_alloc ?_ _)); exact BK141.out)) : gb143 ≠ gb141)); clear HO_12; clear HO_45; clear HO_51; clear BK141; clear HB; have HO_12 := n0_; have HO_45 := n1_; have HO_51 := n2_; have BK141 := n3_; have HB := n4_; have BK143 := n5_; have GW143 := n6_; have GE143 := n7_; have NB141_143 := n8_; have NB143_141 := n9_; clear n0_ n1_ n2_ n3_ n4_ n5_ n6_ n7_ n8_ n9_; clear hb hbox hg; have hnb36 := NB143_141.out; have hnc36 := NB141_143.out; have hcz37_0 : w35.cell? ⟨gb143, 0, none⟩ = some (.int .i64 0) := (blk_cell BK143.out 0).trans rfl; have hcz37_1 : w35.cell? ⟨gb143, 1, none⟩ = some (.int .i64 0) := (blk_cell BK143.out 1).trans rfl; have hfz37_0 := blk_frozen BK143.out 0; have hfz37_1 := blk_frozen BK143.out 1; have hcz38_0 : w35.cell? ⟨gb141, 0, none⟩ = some (.int .i64 ((rd_T34 t137 x47_2).f0)) := (blk_cell BK141.out 0).trans rfl; have hcz38_1 : w35.cell? ⟨gb141, 1, none⟩ = some (.int .i64 ((rd_T34 t137 x47_2).f1)) := (blk_cell BK141.out 1).trans rfl; have hfz38_0 := blk_frozen BK141.out 0; have hfz38_1 := blk_frozen BK141.out 1))
               go_roundg k3
               case measure => have := HJ5.out; have := HK2.out; have := HK3.out; omega
               case rel => exact ⟨((((rd_T34 t134 x53_3).f0) == ((rd_T34 t137 x47_2).f0) && (((rd_T34 t134 x53_3).f1) == ((rd_T34 t137 x47_2).f1)))), (wrap64 (x53_3 + 1)), (by first | rfl | (simp; done) | (simp [*]; done)), (by first | rfl | (simp; done) | (simp [*]; done)), H', ⟨by have := HJ5.out; have := HK2.out; have := HK3.out; omega⟩, ⟨by (with_reducible repeat (first | apply Kd.R_alloc | apply Kd.R_drewN | apply Kd.R_drew)); exact Kd.R_mono (Kd.R_far (p := ⟨gb143, 1, none⟩) (Kd.R_far (p := ⟨gb143, 0, none⟩) (Kd.R_mono HO_12.out (fun k_ hk => (⟨hk, hk.2⟩ : _ ∧ k_ ≠ gb143))) (fun _ hk => hk.2) (.int .i64 ((rd_T34 t134 x53_3).f0))) (fun _ hk => hk.2) (.int .i64 ((rd_T34 t134 x53_3).f1))) (fun _ hk => ⟨hk.1.1.1, hk.1.1.2⟩)⟩, ⟨by (with_reducible repeat (first | apply Kd.R_alloc | apply Kd.R_drewN | apply Kd.R_drew)); exact Kd.R_mono (Kd.R_far (p := ⟨gb143, 1, none⟩) (Kd.R_far (p := ⟨gb143, 0, none⟩) (Kd.R_mono HO_45.out (fun k_ hk => (⟨hk, hk.2⟩ : _ ∧ k_ ≠ gb143))) (fun _ hk => hk.2) (.int .i64 ((rd_T34 t134 x53_3).f0))) (fun _ hk => hk.2) (.int .i64 ((rd_T34 t134 x53_3).f1))) (fun _ hk => ⟨hk.1.1.1, ⟨hk.1.1.2.1, hk.1.1.2.2⟩⟩)⟩, ⟨by (with_reducible repeat (first | apply Kd.R_alloc | apply Kd.R_drewN | apply Kd.R_drew)); exact Kd.R_mono (Kd.R_far (p := ⟨gb143, 1, none⟩) (Kd.R_far (p := ⟨gb143, 0, none⟩) (Kd.R_mono HO_51.out (fun k_ hk => (⟨hk, hk.2⟩ : _ ∧ k_ ≠ gb143))) (fun _ hk => hk.2) (.int .i64 ((rd_T34 t134 x53_3).f0))) (fun _ hk => hk.2) (.int .i64 ((rd_T34 t134 x53_3).f1))) (fun _ hk => ⟨hk.1.1.1, hk.1.1.2⟩)⟩, ⟨by (with_reducible repeat (first | refine blk_drewN ?_ _ | refine blk_drew ?_ | refine blk_alloc ?_ _)); refine blk_far ?_ NB141_143.out _; (with_reducible repeat (first | refine blk_drewN ?_ _ | refine blk_drew ?_ | refine blk_alloc ?_ _)); refine blk_far ?_ NB141_143.out _; (with_reducible repeat (first | refine blk_drewN ?_ _ | refine blk_drew ?_ | refine blk_alloc ?_ _)); exact BK141.out⟩, ⟨by repeat (first | (with_reducible first | exact HB.out | apply below_alloc | apply pw_below_drewN | apply below_drew1 | refine below_set ?_ GE141.out | refine below_set ?_ GE143.out) | exact HB.out)⟩⟩
             ·rw [if_neg c30] at H
              exact absurd H (by simp)
            ·rw [if_neg c29] at H
             exact absurd H (by simp)
           ·rw [if_neg c28] at H
            have c28b0 : decide (x53_3 < (t134.length : Int)) = false := decide_eq_false c28
            clear c28
            by_cases c39 : x15_3 = true
            ·subst c39
             have H1 : (knelllaw14_AuditSlack.l0 k3 t134 t137 (t137.length : Int) (wrap64 (x47_2 + 1))) = some r := by rw [if_pos rfl] at H; exact H
             clear H
             have H := H1
             clear H1
             have H' := Aside0.mk H
             clear H
             go_wp2
             go_roundg k3
             case measure => have := HJ5.out; have := HK2.out; have := HK3.out; omega
             case rel => exact ⟨(wrap64 (x47_2 + 1)), (by first | rfl | (simp; done) | (simp [*]; done)), H', ⟨by have := HJ5.out; have := HK2.out; have := HK3.out; omega⟩, ⟨by (with_reducible repeat (first | apply Kd.R_alloc | apply Kd.R_drewN | apply Kd.R_drew)); exact Kd.R_mono HO_12.out (fun _ hk => hk.1)⟩, ⟨by (with_reducible repeat (first | apply Kd.R_alloc | apply Kd.R_drewN | apply Kd.R_drew)); exact Kd.R_mono HO_45.out (fun _ hk => hk.1)⟩, ⟨by repeat (first | (with_reducible first | exact HB.out | apply below_alloc | apply pw_below_drewN | apply below_drew1 | refine below_set ?_ GE141.out) | exact HB.out)⟩⟩
            ·replace c39 := Bool.eq_false_iff.mpr c39
             subst c39
             have H1 : (some false) = some r := by rw [if_neg (show ¬ (false = true) by decide)] at H; exact H
             clear H
             have H := H1
             clear H1
             obtain rfl := Option.some.inj H
             go_wp2
             go_ret
             exact ⟨by first | rfl | (simp [errW_none, errW_some] <;> rfl) | (simp [*, errW_none, errW_some] <;> rfl), by repeat (first | (with_reducible first | exact HB.out | apply below_alloc | apply pw_below_drewN | apply below_drew1 | refine below_set ?_ GE141.out) | exact HB.out)⟩
        ·rw [if_neg c24] at H
         exact absurd H (by simp)
       ·rw [if_neg c23] at H
        exact absurd H (by simp)
      ·rw [if_neg c22] at H
       have c22b0 : decide (x47_2 < (t137.length : Int)) = false := decide_eq_false c22
       clear c22
       obtain rfl := Option.some.inj H
       go_wp2
       go_ret
       exact ⟨by first | rfl | (simp [errW_none, errW_some] <;> rfl) | (simp [*, errW_none, errW_some] <;> rfl), by repeat (first | (with_reducible first | exact HB.out | apply below_alloc | apply pw_below_drewN | apply below_drew1) | exact HB.out)⟩
end Go.Proofs.Ythniclbmpeklmaa.KSl
end
section
namespace Go.Proofs.Ythniclbmpeklmaa.KSl
open Go.RowKit Go.Proofs.YthniclbmpeklmaaW.PrintWords Go.Proofs.Ythniclbmpeklmaa.Au
open Go.Proofs.YthniclbmpeklmaaW.PrintWords renaming Ev → PE
set_option linter.unusedVariables false
set_option linter.unusedSimpArgs false
theorem PE.self {α : Type} {g : Nat → Option α} {r : α} (h : ∀ k, g (k + 1) = some r) : PE g r := PE.step h (PE.now r)
theorem w64 {i n : Nat} (h : i < n) (hn : n ≤ 1000000) : wrap64 ((i : Int) + 1) = ((i + 1 : Nat) : Int) := by unfold wrap64; omega
def toE (x : S50) : Au.Ev := ⟨x.f0, x.f1, x.f2, x.f3.f0, x.f3.f1, x.f4.f0, x.f4.f1, x.f5, x.f6, x.f7, x.f8, x.f9⟩
def ofS (x : S50) : S54 := ⟨x.f0, x.f1, x.f2, ⟨x.f3.f0, x.f3.f1⟩, ⟨x.f4.f0, x.f4.f1⟩, x.f5, x.f6, x.f7, x.f8, x.f9⟩
theorem ofs_is (l : List S50) (hn : l.length ≤ 1000000) : PE (fun k => knelllaw11_Ofs.f k l) (l.map ofS) := by
 have go : ∀ d i, i + d = l.length → PE (fun k => knelllaw11_Ofs.l0 k ((l.take i).map ofS) l (l.length : Int) (i : Int)) (l.map ofS) := by
  intro d
  induction d with
  | zero =>
   intro i hd
   obtain rfl : i = l.length := by omega
   refine PE.self fun k => ?_
   rw [knelllaw11_Ofs.l0, if_neg (by omega), List.take_length]
  | succ d ih =>
   intro i hd
   refine PE.step (f := fun k => knelllaw11_Ofs.l0 k ((l.take (i + 1)).map ofS) l (l.length : Int) ((i + 1 : Nat) : Int)) (fun k => ?_) (ih (i + 1) (by omega))
   have hi : i < l.length := by omega
   have hrd : rd_T50 l (i : Int) = l[i] := by show l.getD i z50 = l[i]; simp [List.getD, hi]
   rw [knelllaw11_Ofs.l0, if_pos (by omega), if_pos (by omega), if_pos (by omega)]
   unfold knelllaw11_Of.f
   simp only [Option.bind_some]
   rw [if_pos (by simp; omega), w64 hi hn, hrd, List.take_succ_eq_append_getElem hi, List.map_append]
   rfl
 exact go l.length 0 (by omega)
theorem wf_ofS {l : List S50} (hw : ∀ x ∈ l, wfB (toE x) = true) : ((l.map ofS).all fun x => wfB (audit_Late.ev x)) = true := by
 rw [List.all_eq_true]
 intro x hx
 obtain ⟨y, hy, rfl⟩ := List.mem_map.1 hx
 exact hw y hy
theorem speaks14 : knelllaw14_speaks.f = some true := by decide +kernel
def la (l : List S50) (w s : Int) : List S34 := (lateI (l.map toE) w s).map fun h => ⟨h.1, h.2⟩
theorem late_is {l : List S50} (hn : l.length ≤ 1000000) (hw : ∀ x ∈ l, wfB (toE x) = true) (w s : Int) : audit_Late.f (l.map ofS) w s = some (la l w s) := by
 unfold audit_Late.f la
 rw [if_pos ⟨by rw [List.length_map]; exact hn, wf_ofS hw⟩, List.map_map]
 rfl
theorem la_len {l : List S50} (hn : l.length ≤ 1000000) (w s : Int) : (la l w s).length ≤ 1000000 := by
 unfold la lateI
 rw [List.length_map]
 refine Nat.le_trans (lateL_len _ _ _ _) ?_
 exact lives_len _ _ _ (by rw [List.length_map]; exact hn) (Nat.le_refl _)
theorem rd34 {l : List S34} {i : Nat} (h : i < l.length) : rd_T34 l (i : Int) = l[i] := by unfold rd_T34; simp [List.getD, h]
theorem seek (A L : List S34) (hA : A.length ≤ 1000000) (p q : Int) (n : Int) (r : Bool) (j : Int) (hr : PE (fun k => knelllaw14_AuditSlack.l0 k A L n (wrap64 (j + 1))) r) (hin : ∃ x ∈ A, x.f0 = p ∧ x.f1 = q) : PE (fun k => knelllaw14_AuditSlack.l1 k A false L n j A (A.length : Int) 0 p q) r := by
 have go : ∀ d i (b : Bool), i + d = A.length → (b = true ∨ ∃ x ∈ A.drop i, x.f0 = p ∧ x.f1 = q) → PE (fun k => knelllaw14_AuditSlack.l1 k A b L n j A (A.length : Int) (i : Int) p q) r := by
  intro d
  induction d with
  | zero =>
   intro i b hd hb
   obtain rfl : i = A.length := by omega
   have hb : b = true := hb.elim id (fun ⟨x, hx, _⟩ => by rw [List.drop_length] at hx; cases hx)
   subst hb
   exact PE.step (fun k => by rw [knelllaw14_AuditSlack.l1, if_neg (by omega), if_pos rfl]) hr
  | succ d ih =>
   intro i b hd hb
   have hi : i < A.length := by omega
   have hdr : A.drop i = A[i] :: A.drop (i + 1) := List.drop_eq_getElem_cons hi
   cases b with
   | true => exact PE.step (f := fun k => knelllaw14_AuditSlack.l1 k A true L n j A (A.length : Int) ((i + 1 : Nat) : Int) p q) (fun k => by rw [knelllaw14_AuditSlack.l1, if_pos (by omega), if_pos (by omega), if_pos (by omega), if_pos rfl, w64 hi hA]) (ih (i + 1) true (by omega) (.inl rfl))
   | false =>
    refine PE.step (f := fun k => knelllaw14_AuditSlack.l1 k A (A[i].f0 == p && (A[i].f1 == q)) L n j A (A.length : Int) ((i + 1 : Nat) : Int) p q) (fun k => by rw [knelllaw14_AuditSlack.l1, if_pos (by omega), if_pos (by omega), if_pos (by omega), if_neg (by decide), w64 hi hA, rd34 hi]) (ih (i + 1) _ (by omega) ?_)
    obtain ⟨x, hx, h1, h2⟩ := hb.elim (fun e => by cases e) id
    rw [hdr] at hx
    rcases List.mem_cons.1 hx with rfl | hx
    ·left; rw [h1, h2]; simp
    ·exact .inr ⟨x, hx, h1, h2⟩
 exact go A.length 0 false (by omega) (.inr hin)
theorem all_in (A L : List S34) (hA : A.length ≤ 1000000) (hL : L.length ≤ 1000000) (h : ∀ y ∈ L, ∃ x ∈ A, x.f0 = y.f0 ∧ x.f1 = y.f1) : PE (fun k => knelllaw14_AuditSlack.l0 k A L (L.length : Int) 0) true := by
 have go : ∀ d i, i + d = L.length → PE (fun k => knelllaw14_AuditSlack.l0 k A L (L.length : Int) (i : Int)) true := by
  intro d
  induction d with
  | zero =>
   intro i hd
   obtain rfl : i = L.length := by omega
   exact PE.self fun k => by rw [knelllaw14_AuditSlack.l0, if_neg (by omega)]
  | succ d ih =>
   intro i hd
   have hi : i < L.length := by omega
   refine PE.step (f := fun k => knelllaw14_AuditSlack.l1 k A false L (L.length : Int) (i : Int) A (A.length : Int) 0 L[i].f0 L[i].f1) (fun k => by rw [knelllaw14_AuditSlack.l0, if_pos (by omega), if_pos (by omega), if_pos (by omega), rd34 hi]) (seek A L hA _ _ _ _ _ ?_ (h _ (List.getElem_mem hi)))
   rw [w64 hi hL]
   exact ih (i + 1) (by omega)
 exact go L.length 0 (by omega)
theorem wr_small {a : Int} (h0 : 0 ≤ a) (h1 : a ≤ 1000) : wrap64 a = a := by unfold wrap64; omega
theorem AuditSlack (l0 : List S50) (a1 a2 a3 a4 : Int) (hw : ∀ x ∈ l0, wfB (toE x) = true) (h1 : 0 ≤ a1 ∧ a1 ≤ 255) (h2 : 0 ≤ a2 ∧ a2 ≤ 255) (h3 : 0 ≤ a3 ∧ a3 ≤ 255) (h4 : 0 ≤ a4 ∧ a4 ≤ 255) : ∃ k, knelllaw14_AuditSlack.f k l0 a1 a2 a3 a4 = some true := by
 have yes : ∃ k, knelllaw14_AuditSlack.j0 k l0 a1 a2 a3 a4 true = some true := ⟨1, by rw [knelllaw14_AuditSlack.j0, if_pos rfl, speaks14]; rfl⟩
 unfold knelllaw14_AuditSlack.f
 rw [speaks14]
 simp only [Option.bind_some, if_true]
 by_cases hn : (l0.length : Int) > 60
 ·simp only [decide_eq_true hn]; exact yes
 ·simp only [decide_eq_false hn]
  have hl : l0.length ≤ 60 := by omega
  have e1 := wr_small h1.1 (by omega)
  have e2 := wr_small h2.1 (by omega)
  have e3 := wr_small h3.1 (by omega)
  have e4 := wr_small h4.1 (by omega)
  have e5 := wr_small (a := a1 + a2) (by omega) (by omega)
  have e6 := wr_small (a := a3 + a4) (by omega) (by omega)
  refine PE.rounds (g := fun k => knelllaw14_AuditSlack.j0 k l0 a1 a2 a3 a4 false) (PE.step (fun k => by rw [knelllaw14_AuditSlack.j0, if_neg (by decide)]) (PE.bind (ofs_is l0 (by omega)) ?_))
  refine PE.congr (f := fun k => knelllaw14_AuditSlack.l0 k (la l0 a1 a3) (la l0 (a1 + a2) (a3 + a4)) ((la l0 (a1 + a2) (a3 + a4)).length : Int) 0) (fun k => ?_) (all_in _ _ (la_len (by omega) _ _) (la_len (by omega) _ _) fun y hy => ?_)
  ·rw [e1, e2, e3, e4, e5, e6, late_is (by omega) hw, late_is (by omega) hw]
   rfl
  ·unfold la at hy ⊢
   obtain ⟨h, hh, rfl⟩ := List.mem_map.1 hy
   have q := late_less (m := a2.toNat) (sl' := a3 + a4) (sl := a3) (w := a1) (by omega) h (by rw [show ((a2.toNat : Nat) : Int) = a2 by omega]; exact hh)
   exact ⟨⟨h.1, h.2⟩, List.mem_map.2 ⟨h, q, rfl⟩, rfl, rfl⟩
theorem u8 {a : Int} (h : (Lit.int .u8 a).wf = true) : 0 ≤ a ∧ a ≤ 255 := by
 have e1 : IntKind.u8.min = 0 := rfl
 have e2 : IntKind.u8.max = 255 := rfl
 simpa [Lit.wf, e1, e2] using h
end Go.Proofs.Ythniclbmpeklmaa.KSl
end
section
namespace Go.Proofs.Ythniclbmpeklmaa.Krow
open Go.ChangeShapes Go.WideShapes Go.Deep Go.Proofs.YthniclbmpeklmaaW.PrintWords
inductive Leaf where
 | int (k : IntKind)
 | bool
def Leaf.ok : Leaf → Value → Prop
 | .int k, v => ∃ n, v = .int k n ∧ (Lit.int k n).wf = true
 | .bool, v => ∃ b, v = .bool b
def Leaves : List Leaf → List Value → Prop
 | [], [] => True
 | l :: ls, v :: vs => l.ok v ∧ Leaves ls vs
 | _, _ => False
theorem Leaves.length : ∀ {ls : List Leaf} {vs : List Value}, Leaves ls vs → vs.length = ls.length
 | [], [], _ => rfl
 | _ :: _, _ :: _, h => by simp [Leaves.length h.2]
theorem Leaves.append : ∀ {a b : List Leaf} {vs ws : List Value}, Leaves a vs → Leaves b ws → Leaves (a ++ b) (vs ++ ws)
 | [], _, [], _, _, h => h
 | _ :: _, _, _ :: _, _, h, h' => ⟨h.1, Leaves.append h.2 h'⟩
theorem Leaves.int {k : IntKind} {ls : List Leaf} {vs : List Value} (h : Leaves (.int k :: ls) vs) : ∃ n r, vs = .int k n :: r ∧ (Lit.int k n).wf = true ∧ Leaves ls r := by
 match vs, h with
 | _ :: r, ⟨⟨n, rfl, hw⟩, h⟩ => exact ⟨n, r, rfl, hw, h⟩
theorem Leaves.boole {ls : List Leaf} {vs : List Value} (h : Leaves (.bool :: ls) vs) : ∃ b r, vs = .bool b :: r ∧ Leaves ls r := by
 match vs, h with
 | _ :: r, ⟨⟨b, rfl⟩, h⟩ => exact ⟨b, r, rfl, h⟩
theorem Leaves.nil {vs : List Value} (h : Leaves [] vs) : vs = [] := by
 match vs, h with
 | [], _ => rfl
theorem collect {α : Type} {p : Nat → α → Prop} {len : Nat} (key : ∀ i, i < len → ∃ x : α, p i x) : ∃ l : List α, l.length = len ∧ ∀ i x, l[i]? = some x → p i x := by
 induction len with
 | zero => exact ⟨[], rfl, fun i x h => by simp at h⟩
 | succ len ih =>
  obtain ⟨l, hl, hx⟩ := ih (fun i hi => key i (by omega))
  obtain ⟨x, hp⟩ := key len (by omega)
  refine ⟨l ++ [x], by simp [hl], fun i y hy => ?_⟩
  by_cases hi : i < len
  ·rw [List.getElem?_append_left (by omega)] at hy
   exact hx i y hy
  ·rw [List.getElem?_append_right (by omega)] at hy
   have : i - l.length = 0 := by
    have := (List.getElem?_eq_some_iff.1 hy).1
    simp at this
    omega
   rw [this] at hy
   obtain rfl : x = y := by simpa using hy
   obtain rfl : i = len := by omega
   exact hp
def fieldsOf (f : TypeId → Option (List Leaf)) (P : Program) : List Field → Nat → Option (List Leaf)
 | [], _ => some []
 | x :: r, off => (f x.type).bind fun ls => if x.offset = off ∧ P.cellsOf x.type = ls.length then (fieldsOf f P r (off + ls.length)).map (ls ++ ·) else none
def plainOf (P : Program) : Nat → TypeId → Option (List Leaf)
 | 0, _ => none
 | n + 1, t => match P.underlying t with
  | some (.int k) => some [.int k]
  | some .bool => some [.bool]
  | some (.struct fs) => (fieldsOf (plainOf P n) P fs.toList 0).bind fun ls => if P.cellsOf t = ls.length then some ls else none
  | some (.array m e) => (plainOf P n e).bind fun ls => if P.cellsOf e = ls.length ∧ P.cellsOf t = m * ls.length then some ((List.replicate m ls).flatten) else none
  | _ => none
section
variable {H : Type} {enc : TypeId × Value → H} {P : Program} {w : World} {base : Nat} {spare : Nat → Bool} {held : Bool}
theorem fields_leaves {n : Nat} (ih : ∀ (t : TypeId) (ls : List Leaf) (fuel : Nat) (cs : List Value) (x : DataW H × List MemPlace), plainOf P n t = some ls → DataW.trod enc P w base spare held fuel t cs = some x → Leaves ls cs) (cs : List Value) (m : Nat) :
  ∀ (fs : List Field) (off : Nat) (ls : List Leaf), (∀ (i : Nat) (f : Field), fs[i]? = some f → ∃ x, DataW.trod enc P w base spare held m f.type ((cs.drop f.offset).take (P.cellsOf f.type)) = some x) →
   fieldsOf (plainOf P n) P fs off = some ls → Leaves ls ((cs.drop off).take ls.length) := by
 intro fs
 induction fs with
 | nil =>
  intro off ls _ h
  simp only [fieldsOf, Option.some.injEq] at h
  subst h
  simp [Leaves]
 | cons f r ihr =>
  intro off ls hx h
  simp only [fieldsOf] at h
  obtain ⟨l1, h1, h⟩ := Option.bind_eq_some_iff.1 h
  by_cases hc : f.offset = off ∧ P.cellsOf f.type = l1.length
  ·rw [if_pos hc] at h
   obtain ⟨l2, h2, rfl⟩ := Option.map_eq_some_iff.1 h
   obtain ⟨x, hx0⟩ := hx 0 f rfl
   rw [hc.1, hc.2] at hx0
   have a1 := ih f.type l1 m _ x h1 hx0
   have a2 := ihr (off + l1.length) l2 (fun i g hg => hx (i + 1) g hg) h2
   have e : (cs.drop off).take (l1 ++ l2).length = (cs.drop off).take l1.length ++ (cs.drop (off + l1.length)).take l2.length := by
    rw [List.length_append, List.take_add, List.drop_drop]
   rw [e]
   exact a1.append a2
  ·rw [if_neg hc] at h
   cases h
theorem blocks_leaves (ls : List Leaf) (cs : List Value) : ∀ (m off : Nat), (∀ i, i < m → Leaves ls ((cs.drop ((off + i) * ls.length)).take ls.length)) → Leaves ((List.replicate m ls).flatten) ((cs.drop (off * ls.length)).take (m * ls.length)) := by
 intro m
 induction m with
 | zero => intro off _; simp [Leaves]
 | succ m ih =>
  intro off h
  have a1 := h 0 (by omega)
  have a2 := ih (off + 1) (fun i hi => by have := h (i + 1) (by omega); rw [show off + 1 + i = off + (i + 1) by omega]; exact this)
  rw [Nat.add_zero] at a1
  rw [List.replicate_succ, List.flatten_cons, show (m + 1) * ls.length = ls.length + m * ls.length by rw [Nat.add_mul]; omega, List.take_add, List.drop_drop, show off * ls.length + ls.length = (off + 1) * ls.length by rw [Nat.add_mul]; omega]
  exact a1.append a2
theorem plain_trod : ∀ (n : Nat) (t : TypeId) (ls : List Leaf) (fuel : Nat) (cs : List Value) (x : DataW H × List MemPlace), plainOf P n t = some ls → DataW.trod enc P w base spare held fuel t cs = some x → Leaves ls cs := by
 intro n
 induction n with
 | zero => intro t ls fuel cs x h; cases h
 | succ n ih =>
  intro t ls fuel cs x h hx
  unfold plainOf at h
  split at h
  ·rename_i k hu
   obtain rfl := Option.some.inj h
   obtain ⟨a, rfl, _, hw⟩ := DataW.trod_int hu hx
   exact ⟨⟨a, rfl, hw⟩, trivial⟩
  ·rename_i hu
   obtain rfl := Option.some.inj h
   obtain ⟨b, rfl, _⟩ := DataW.trod_bool hu hx
   exact ⟨⟨b, rfl⟩, trivial⟩
  ·rename_i fs hu
   obtain ⟨l, h1, h⟩ := Option.bind_eq_some_iff.1 h
   by_cases hc : P.cellsOf t = l.length
   ·rw [if_pos hc] at h
    obtain rfl := Option.some.inj h
    obtain ⟨xs, m, _, _, hl, hlen, hf⟩ := DataW.trod_struct hu hx
    have := fields_leaves ih cs m fs.toList 0 l (fun i f hi => by
     have hi' : fs[i]? = some f := by simpa using hi
     rw [hf i f hi']
     have : i < xs.length := by rw [hlen]; exact (Array.getElem?_eq_some_iff.1 hi').1
     exact ⟨_, List.getElem?_eq_getElem this⟩) h1
    rw [List.drop_zero, List.take_of_length_le (by omega)] at this
    exact this
   ·rw [if_neg hc] at h
    cases h
  ·rename_i m e hu
   obtain ⟨l, h1, h⟩ := Option.bind_eq_some_iff.1 h
   by_cases hc : P.cellsOf e = l.length ∧ P.cellsOf t = m * l.length
   ·rw [if_pos hc] at h
    obtain rfl := Option.some.inj h
    obtain ⟨xs, q, _, _, hl, hlen, hf⟩ := DataW.trod_array hu hx
    have := blocks_leaves l cs m 0 (fun i hi => by
     have h2 := hf i hi
     rw [List.getElem?_eq_getElem (by omega), hc.1] at h2
     rw [Nat.zero_add]
     exact ih e l q _ _ h1 h2)
    rw [Nat.zero_mul, List.drop_zero, List.take_of_length_le (by omega)] at this
    exact this
   ·rw [if_neg hc] at h
    cases h
  ·cases h
theorem open_plain {r : Reach} {b0 : Nat} {t : TypeId} {v : Value} {d : DataW H} {ps : List MemPlace} {n : Nat} {ls : List Leaf} (hp : plainOf P n t = some ls) (ha : (match P.underlying t with | some (.struct _) | some (.array _ _) => true | _ => false) = true)
  (hv : Value.okWide P w r b0 t v) (h : DataW.Trod enc P w base spare held t v d ps) : ∃ cs : List Value, v = .agg cs.toArray ∧ Leaves ls cs := by
 obtain ⟨fuel, hf⟩ := h
 unfold Value.okWide at hv
 have key : ∃ cs, v = .agg cs := by
  split at hv
  ·obtain ⟨cs, h1, _⟩ := hv; exact ⟨cs, h1⟩
  ·obtain ⟨cs, h1, _⟩ := hv; exact ⟨cs, h1⟩
  ·rename_i h1 h2
   split at ha
   ·rename_i fs he; exact absurd he (h1 fs)
   ·rename_i a e he; exact absurd he (h2 a e)
   ·cases ha
 obtain ⟨cs, rfl⟩ := key
 have h2 := plain_trod n t ls fuel _ _ hp hf
 exact ⟨cs.toList, by simp, by simpa [Value.cells] using h2⟩
theorem open_rows {α : Type} (D : Kd α) (good : α → Prop) {r : Reach} {b0 : Nat} {t e : TypeId} {v : Value} {d : DataW H} {ps : List MemPlace} {n : Nat} {ls : List Leaf} (hu : P.underlying t = some (.slice e)) (hp : plainOf P n e = some ls) (hc : P.cellsOf e = ls.length) (hsz : D.sz = ls.length)
  (mk : ∀ cs : List Value, Leaves ls cs → ∃ x : α, D.K w x cs ∧ good x)
  (hv : Value.okWide P w r b0 t v) (h : DataW.Trod enc P w base spare held t v d ps) :
  ∃ (A : Option Addr) (c : Nat) (l : List α), v = .slice A l.length c ∧ l.length ≤ c ∧ l.length ≤ 9223372036854775807 ∧ Kd.C D w A l.length l ∧ ∀ x ∈ l, good x := by
 obtain ⟨A, len, cap, rfl⟩ := okWide_slice hu hv
 obtain ⟨fuel, hf⟩ := h
 rcases open_slice hu hf with ⟨hcs, _⟩ | ⟨a, len', cap', m, q, Ds, Pl, hcs, _, hl, hm, hmm, _, hi⟩
 ·simp [Value.cells] at hcs
  obtain ⟨rfl, rfl, rfl⟩ := hcs
  exact ⟨none, 0, [], rfl, Nat.le_refl _, by simp, ⟨rfl, by simp, fun h => absurd h (by simp)⟩, by simp⟩
 ·simp [Value.cells] at hcs
  obtain ⟨rfl, rfl, rfl⟩ := hcs
  have hlm : len ≤ m := by
   rw [hmm]
   split
   ·exact hl
   ·exact Nat.le_refl _
  have key : ∀ i, i < len → ∃ (x : α) (cs : List Value), D.K w x cs ∧ good x ∧ cs.length = ls.length ∧ ∀ j u, cs[j]? = some u → w.cell? (a.add (i * ls.length + j)) = some u := by
   intro i hil
   obtain ⟨cs', h1, h2⟩ := hi i (by omega)
   rw [hc] at h1
   obtain ⟨_, hlen, hcell⟩ := World.cells?_some h1
   obtain ⟨x, hx, hg⟩ := mk cs' (plain_trod n e ls q cs' _ hp h2)
   refine ⟨x, cs', hx, hg, hlen, fun j u hu => ?_⟩
   have hj : j < ls.length := by rw [← hlen]; exact (List.getElem?_eq_some_iff.1 hu).1
   rw [← Go.Deep.add_add, hcell j hj, hu]
  have ch := collect key
  obtain ⟨l, rfl, hx⟩ := ch
  have hm' : cap ≤ 9223372036854775807 := hm
  refine ⟨some a, cap, l, rfl, hl, by omega, ⟨rfl, by omega, fun _ => ⟨a, rfl, fun j p hj => ?_⟩⟩, fun x hxl => ?_⟩
  ·obtain ⟨cs, h1, _, h3, h4⟩ := hx j p hj
   refine ⟨cs, by rw [h3, hsz], h1, ?_⟩
   rw [hsz]
   exact h4
  ·obtain ⟨i, hi⟩ := List.mem_iff_getElem?.1 hxl
   obtain ⟨_, _, h2, _⟩ := hx i x hi
   exact h2
end
end Go.Proofs.Ythniclbmpeklmaa.Krow
end
